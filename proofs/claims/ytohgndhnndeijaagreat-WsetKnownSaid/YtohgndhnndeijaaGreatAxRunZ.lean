/- The abstract machine run on closed inputs; what a run yields holds of the program's calls. Conditions: none. -/
import Derived.Test.YtohgndhnndeijaaGreatAxEnterZ
set_option linter.all false
open Option.some renaming injEq -> Qa
open Prod.mk renaming injEq -> Qb
open Option renaming map_eq_some_iff -> Qc
open Bool renaming and_eq_true -> Qd
namespace Go.Ax
open Go Go.RowKit
def WZ:Value->Value->Bool
 | .pointer none,.pointer none=>true
 | .slice none 0 0,.slice none 0 0=>true
 | .map none,.map none=>true
 | .nilFunc,.nilFunc=>true
 | .nilIface,.nilIface=>true
 | .float k a,.float k' b=>k==k'&&a==b
 | .complex k a c,.complex k' b d=>k==k'&&a==b&&c==d
 |_,_=>false
theorem ZO{x y:Value}(h:WZ x y=true):x=y:=by
 unfold WZ at h
 split at h<;>simp_all
mutual
def KZ:AH->AH->Bool
 | .int k n,b=>(match b with| .int k' m=>k==k'&&n==m|_=>false)
 | .bool a,b=>(match b with| .bool c=>a==c|_=>false)
 | .str a,b=>(match b with| .str c=>a==c|_=>false)
 | .lit x,b=>(match b with| .lit y=>WZ x y|_=>false)
 | .ptr o n i j,b=>(match b with| .ptr o' n' i' j'=>o==o'&&n==n'&&i==i'&&j==j'|_=>false)
 | .slice o n st len full,b=>(match b with| .slice o' n' st' len' full'=>o==o'&&n==n'&&st==st'&&len==len'&&full==full'|_=>false)
 | .acc o n,b=>(match b with| .acc o' n'=>o==o'&&n==n'|_=>false)
 | .Kl o n i j len,b=>(match b with| .Kl o' n' i' j' len'=>o==o'&&n==n'&&i==i'&&j==j'&&len==len'|_=>false)
 | .map o,b=>(match b with| .map o'=>o==o'|_=>false)
 | .M1 o,b=>(match b with| .M1 o'=>o==o'|_=>false)
 | .agg l,b=>(match b with| .agg r=>Nv l r|_=>false)
 | .Bj l,b=>(match b with| .Bj r=>Nv l r|_=>false)
 | .Dk,_=>false
 | .func f l,b=>(match b with| .func g r=>f==g&&Nv l r|_=>false)
 | .iface _ _,_=>false
def Nv:List AH->List AH->Bool
 |[],r=>(match r with|[]=>true|_=>false)
 |a::l,r=>(match r with|b::r=>KZ a b&&Nv l r|[]=>false)
end
mutual
theorem Ua:∀(a b:AH),KZ a b=true->a=b
 | .int k n,b,h=>by cases b<;>simp[KZ]at h;simp[h]
 | .bool a,b,h=>by cases b<;>simp[KZ]at h;simp[h]
 | .str a,b,h=>by cases b<;>simp[KZ]at h;simp[h]
 | .lit x,b,h=>by cases b<;>simp[KZ]at h;rw[ZO h]
 | .ptr o n i j,b,h=>by cases b<;>simp[KZ]at h;simp[h]
 | .slice o n st len full,b,h=>by cases b<;>simp[KZ]at h;simp[h]
 | .acc o n,b,h=>by cases b<;>simp[KZ]at h;simp[h]
 | .Kl o n i j len,b,h=>by cases b<;>simp[KZ]at h;simp[h]
 | .map o,b,h=>by cases b<;>simp[KZ]at h;simp[h]
 | .M1 o,b,h=>by cases b<;>simp[KZ]at h;simp[h]
 | .agg l,b,h=>by cases b<;>simp[KZ]at h;rw[Ln _ _ h]
 | .Bj l,b,h=>by cases b<;>simp[KZ]at h;rw[Ln _ _ h]
 | .Dk,b,h=>by simp[KZ]at h
 | .func f l,b,h=>by
  cases b<;>simp[KZ]at h
  rw[h.1,Ln _ _ h.2]
 | .iface _ _,b,h=>by simp[KZ]at h
theorem Ln:∀(l r:List AH),Nv l r=true->l=r
 |[],r,h=>by cases r<;>simp[Nv]at h;rfl
 |a::l,r,h=>by
  cases r with
  |nil=>simp[Nv]at h
  |cons b r=>
   simp only[Nv,Qd]at h
   rw[Ua _ _ h.1,Ln _ _ h.2]
end
abbrev Pk:=FuncId->List AH->AP->Option (AH×AP)
def P1(call:Pk)(o:A6)(s:St):Option St:=
 match o.op with
 | .call f args=>match call f (args.map (Bm s.T)) s.H with
  |some (v,H')=>some ⟨Ar s.T o.dst v,H'⟩
  |none=>none
 | .Ha x args=>match Bm s.T x with
  | .func f cap=>match call f (args.map (Bm s.T)++cap) s.H with
   |some (v,H')=>some ⟨Ar s.T o.dst v,H'⟩
   |none=>none
  |_=>none
 |op=>match AV s.T s.H op with
  |some (v,H')=>some ⟨Ar s.T o.dst v,H'⟩
  |none=>none
def Ol(call:Pk):List A6->St->Option St
 |[],s=>some s
 |o::l,s=>match o.guard with
  |none=>match P1 call o s with
   |some s'=>Ol call l s'
   |none=>none
  |some (d,b)=>match PI (Bm s.T (.t d))with
   |some g=>if g=some b then(match P1 call o s with
    |some s'=>Ol call l s'
    |none=>none)else Ol call l ⟨Ar s.T o.dst Co,s.H⟩
   |none=>none
structure Log where
 idx:Nat
 op:GS
 T:List AH
 v:AH
def So(pre:Nat->Bool)(H:AP):List Log->Bool
 |[]=>true
 |l::r=>(pre l.idx||(match AV l.T H l.op with
  |some (v,_)=>l.op.quiet&&KZ v l.v
  |none=>false))&&So pre H r
def Gl(call:Pk)(n0:Nat)(pre:Nat->Nat->Bool):List (Nat×A6)->List Log->St->Option St
 |[],_,s=>some s
 |(i,o)::rest,log,s=>match(match o.guard with
  |none=>some true
  |some (d,b)=>match PI (Bm s.T (.t d))with
   |some g=>some (g==some b)
   |none=>none)with
  |some true=>(match o.op with
   | .born k b=>(match Cz s.T (n0+k) b with
    |some (v,x)=>Gl call n0 pre rest log ⟨Ar s.T o.dst v,s.H.set (n0+k) x⟩
    |none=>none)
   |op=>if op.quiet then(match AV s.T s.H op with
    |some (v,_)=>Gl call n0 pre rest (if op.pure then log else⟨i,op,s.T,v⟩::log) ⟨Ar s.T o.dst v,s.H⟩
    |none=>none)
    else(match P1 call o s with
     |some s'=>if So (pre i) s'.H log then Gl call n0 pre rest log s' else none
     |none=>none))
  |some false=>Gl call n0 pre rest log ⟨Ar s.T o.dst Co,s.H⟩
  |none=>none
inductive M6 where
 |normal
 |exit (i:Nat)
 |ret
def M6.Ll:M6->Exit
 | .normal=> .normal
 | .exit i=> .exit i
 | .ret=> .ret
def iter:Nat->(St->Option (M6×St))->St->Option (M6×St)
 |0,_,_=>none
 |k+1,f,s=>match f s with
  |some (.normal,s')=>iter k f s'
  |r=>r
def ex(call:Pk)(k:Nat):AD->St->Option (M6×St)
 | .skip,s=>some (.normal,s)
 | .Nx,_=>none
 | .region l,s=>(Ol call l s).map λs'=>(.normal,s')
 | .drawn wl aft nb,s=>(Gl call s.H.length (CQ (Cy aft [])) wl [] ⟨s.T,s.H++List.replicate nb .A1⟩).map λs'=>(.normal,s')
 | .seq a b,s=>match ex call k a s with
  |some (.normal,s')=>ex call k b s'
  |r=>r
 | .cond c t e,s=>match Bm s.T c with
  | .bool true=>ex call k t s
  | .bool false=>ex call k e s
  |_=>none
 | .block i c,s=>match ex call k c s with
  |some (.exit j,s')=>if j=i then some (.normal,s')else some (.exit j,s')
  |r=>r
 | .loop c,s=>iter k (ex call k c) s
 | .exit i,s=>some (.exit i,s)
 | .ret,s=>some (.ret,s)
structure Kb where
 code:AD
 nt:Nat
 n9:List Pj
 prim:Option (List AH->Option AH):=none
def Wx(O0:FuncId->Option Kb)(loops:Nat):Nat->Pk
 |0,_,_,_=>none
 |k+1,f,args,H=>match O0 f with
  |none=>none
  |some t=>match t.prim with
   |some p=>(p args).map (·,H)
   |none=>match ex (Wx O0 loops k) loops t.code ⟨args++List.replicate (t.nt-args.length) .Dk,H⟩with
    |some (.exit _,_)=>none
    |some (_,s)=>match PC s t.n9 with
     |some l=>some (JY l,s.H)
     |none=>none
    |none=>none
section sound
variable {P:Program}{call:Pk}
def Pl(P:Program)(call:Pk):Prop:=∀f args H v H',call f args H=some (v,H')->Di P f=true/\∀K:AH->AP->Prop,K v H'->AF P f args H K
theorem Oj(hc:Pl P call){o:A6}{s s':St}(h:P1 call o s=some s'){K:St->Prop}(hK:K s'):Bu P o K s:=by
 unfold P1 at h
 unfold Bu
 split at h
 ·rename_i f args hop
  simp only[hop]
  split at h
  ·rename_i v H' hh
   injection h with h;subst h
   exact(hc _ _ _ _ _ hh).2 _ hK
  ·cases h
 ·rename_i x args hop
  simp only[hop]
  split at h
  case h_2=>cases h
  rename_i f cap hx
  simp only[hx]
  split at h
  ·rename_i v H' hh
   injection h with h;subst h
   exact⟨(hc _ _ _ _ _ hh).1,(hc _ _ _ _ _ hh).2 _ hK⟩
  ·cases h
 ·rename_i hne hne'
  split
  ·rename_i f args hop;exact absurd hop (hne f args)
  ·rename_i x args hop;exact absurd hop (hne' x args)
  ·split at h
   ·rename_i hs;rw[hs];injection h with h;subst h;exact hK
   ·cases h
theorem K6(hc:Pl P call){K:St->Prop}:∀(l:List A6) (s s':St),Ol call l s=some s'->K s'->Eb P l K s
 |[],s,s',h,hK=>by simp only[Ol,Qa]at h;subst h;exact hK
 |o::l,s,s',h,hK=>by
  simp only[Ol]at h
  simp only[Eb,nH]
  have one:(match P1 call o s with|some s'=>Ol call l s'|none=>none)=some s'->Bu P o (Eb P l K) s:=by
   intro h
   split at h
   ·rename_i s1 h1;exact Oj hc h1 (K6 hc l s1 s' h hK)
   ·cases h
  split at h
  ·rename_i hg;simp only[hg];exact one h
  ·rename_i d b hg
   simp only[hg]
   split at h
   ·rename_i g hgv
    simp only[hgv]
    split at h
    ·rename_i hgb;exact⟨λ_=>one h,λhn=>absurd hgb hn⟩
    ·rename_i hgb;exact⟨λhh=>absurd hh hgb,λ_=>K6 hc l _ s' h hK⟩
   ·cases h
def aH(l:List Log)(log:Cp):Prop:=∀e∈log,∃a∈l,a.idx=e.1/\a.op.quiet=true/\∀H,AV a.T H a.op=some (a.v,H)->e.2 H
theorem Uz{pre:Nat->Bool}{H:AP}{l:List Log}{log:Cp}(hl:aH l log)(h:So pre H l=true):Kk pre H log:=by
 rw[K3]
 intro e he
 obtain⟨a,ha,hi,hq,hp⟩:=hl e he
 have:∀{l:List Log},So pre H l=true->a∈l->pre a.idx=true\/AV a.T H a.op=some (a.v,H):=by
  intro l
  induction l with
  |nil=>intro _ h;cases h
  |cons b l ih=>
   intro h hm
   simp only[So,Qd,Bool.or_eq_true]at h
   rcases List.mem_cons.1 hm with rfl|hm
   ·refine h.1.imp id λh=> ?_
    split at h
    ·rename_i v H' hs
     rw[Qd]at h
     have hh:H'=H:=EM h.1 hs
     rw[hs,Ua _ _ h.2,hh]
    ·cases h
   ·exact ih h.2 hm
 rcases this h ha with h1|h1
 ·exact .inr (by rw[<-hi];exact h1)
 ·exact .inl (hp H h1)
theorem Ez(hc:Pl P call){n0:Nat}{pre:Nat->Nat->Bool}{K:St->Prop}:∀(l:List (Nat×A6)) (logs:List Log) (log:Cp) (s s':St),aH logs log->Gl call n0 pre l logs s=some s'->K s'->Ab P n0 pre l log K s
 |[],logs,log,s,s',_,h,hK=>by simp only[Gl,Qa]at h;subst h;exact hK
 |(i,o)::rest,logs,log,s,s',hl,h,hK=>by
  show De P n0 (pre i) i o log (λlog' s'=>Ab P n0 pre rest log' K s') s
  simp only[Gl]at h
  have run:(match o.op with
   | .born k b=>(match Cz s.T (n0+k) b with
    |some (v,x)=>Gl call n0 pre rest logs ⟨Ar s.T o.dst v,s.H.set (n0+k) x⟩
    |none=>none)
   |op=>if op.quiet then(match AV s.T s.H op with
    |some (v,_)=>Gl call n0 pre rest (if op.pure then logs else⟨i,op,s.T,v⟩::logs) ⟨Ar s.T o.dst v,s.H⟩
    |none=>none)
    else(match P1 call o s with
     |some s'=>if So (pre i) s'.H logs then Gl call n0 pre rest logs s' else none
     |none=>none))=some s'->Kt P n0 (pre i) i o log (λlog' s'=>Ab P n0 pre rest log' K s') s:=by
   intro h
   split at h
   ·rename_i k b hop
    split at h
    ·rename_i hb
     simp only[Kt,hop,hb]
     exact Ez hc rest logs log _ s' hl h hK
    ·cases h
   ·rename_i hnb
    rw[JB (λk b e=>hnb k b e)]
    split at h
    ·rename_i hq
     rw[if_pos hq]
     split at h
     ·rename_i v H' hs
      rw[hs]
      by_cases hpu:o.op.pure=true
      ·simp only[hpu,if_true]at h ⊢
       exact Ez hc rest _ _ _ s' hl h hK
      simp only[hpu,Bool.false_eq_true,if_false]at h ⊢
      refine Ez hc rest _ _ _ s' (λe he=> ?_) h hK
      rcases List.mem_cons.1 he with rfl|he
      ·exact⟨_,List.mem_cons_self,rfl,hq,λH h=>h⟩
      ·obtain⟨a,ha,q⟩:=hl e he
       exact⟨a,List.mem_cons_of_mem _ ha,q⟩
     ·cases h
    ·rename_i hq
     rw[if_neg hq]
     split at h
     ·rename_i s1 h1
      split at h
      ·rename_i hch;exact Oj hc h1 ⟨Uz hl hch,Ez hc rest _ _ _ s' hl h hK⟩
      ·cases h
     ·cases h
  unfold De
  split at h
  ·rename_i hg
   split at hg
   ·rename_i hgd;simp only[hgd];exact run h
   ·rename_i d b hgd
    simp only[hgd]
    split at hg
    ·rename_i g hgv
     simp only[hgv]
     have:g=some b:=by simpa using hg
     exact⟨λ_=>run h,λhn=>absurd this hn⟩
    ·cases hg
  ·rename_i hg
   split at hg
   ·cases hg
   ·rename_i d b hgd
    simp only[hgd]
    split at hg
    ·rename_i g hgv
     simp only[hgv]
     have:g≠some b:=by simpa using hg
     exact⟨λhh=>absurd hh this,λ_=>Ez hc rest _ _ _ s' hl h hK⟩
    ·cases hg
  ·cases h
theorem RC{n0:Nat}{c:AD}{f:St->Option (M6×St)}(hf:∀s e s' (Q:Exit->St->Prop),f s=some (e,s')->Q e.Ll s'->I9 P n0 c Q s){Q:Exit->St->Prop}:
 ∀(k:Nat) (s:St) (e:M6) (s':St),iter k f s=some (e,s')->Q e.Ll s'->AK P n0 c Q s
 |0,_,_,_,h,_=>by cases h
 |k+1,s,e,s',h,hQ=>by
  simp only[iter]at h
  split at h
  ·rename_i s1 h1
   exact AK.unfold (hf s .normal s1 _ h1 (RC hf k s1 e s' h hQ))
  ·rename_i h1
   refine AK.unfold (hf s e s' _ h ?_)
   cases e with
   |normal=>exact absurd h (h1 s')
   |exit i=>exact hQ
   |ret=>exact hQ
theorem Fw(hc:Pl P call)(n0 k:Nat):∀(c:AD) (s:St) (e:M6) (s':St) (Q:Exit->St->Prop),ex call k c s=some (e,s')->Q e.Ll s'->I9 P n0 c Q s
 | .Nx,_,_,_,_,h,_=>by cases h
 | .skip,s,e,s',Q,h,hQ=>by simp only[ex,Qa,Qb]at h;obtain⟨rfl,rfl⟩:=h;exact hQ
 | .ret,s,e,s',Q,h,hQ=>by simp only[ex,Qa,Qb]at h;obtain⟨rfl,rfl⟩:=h;exact hQ
 | .exit i,s,e,s',Q,h,hQ=>by simp only[ex,Qa,Qb]at h;obtain⟨rfl,rfl⟩:=h;exact hQ
 | .region l,s,e,s',Q,h,hQ=>by
  simp only[ex,Qc,Qb]at h
  obtain⟨s1,h1,rfl,rfl⟩:=h
  exact K6 hc l s s1 h1 hQ
 | .drawn wl aft nb,s,e,s',Q,h,hQ=>by
  simp only[ex,Qc,Qb]at h
  obtain⟨s1,h1,rfl,rfl⟩:=h
  exact Ez hc _ [] [] _ s1 (λe he=>by cases he) h1 hQ
 | .seq a b,s,e,s',Q,h,hQ=>by
  simp only[ex]at h
  simp only[I9]
  split at h
  ·rename_i s1 h1
   exact Fw hc n0 k a s .normal s1 _ h1 (Fw hc n0 k b s1 e s' Q h hQ)
  ·rename_i h1
   refine Fw hc n0 k a s e s' _ h ?_
   cases e with
   |normal=>exact absurd h (h1 s')
   |exit i=>exact hQ
   |ret=>exact hQ
 | .cond c t e',s,e,s',Q,h,hQ=>by
  simp only[ex]at h
  simp only[I9]
  split at h
  ·rename_i hb
   simp only[hb]
   exact⟨λ_=>Fw hc n0 k t s e s' Q h hQ,(λhh=>by cases hh)⟩
  ·rename_i hb
   simp only[hb]
   exact⟨(λhh=>by cases hh),λ_=>Fw hc n0 k e' s e s' Q h hQ⟩
  ·cases h
 | .block i c,s,e,s',Q,h,hQ=>by
  simp only[ex]at h
  simp only[I9]
  split at h
  ·rename_i j s1 h1
   refine Fw hc n0 k c s (.exit j) s1 _ h1 ?_
   simp only[M6.Ll,JZ]
   split at h
   ·rename_i hij
    simp only[Qa,Qb]at h;obtain⟨rfl,rfl⟩:=h
    rw[if_pos hij];exact hQ
   ·rename_i hij
    simp only[Qa,Qb]at h;obtain⟨rfl,rfl⟩:=h
    rw[if_neg hij];exact hQ
  ·rename_i h1
   refine Fw hc n0 k c s e s' _ h ?_
   cases e with
   |normal=>exact hQ
   |exit j=>exact absurd h (h1 j s')
   |ret=>exact hQ
 | .loop c,s,e,s',Q,h,hQ=>by
  simp only[ex]at h
  simp only[I9]
  exact RC (λs e s' Q h hQ=>Fw hc n0 k c s e s' Q h hQ) k s e s' h hQ
def aI(P:Program)(f:FuncId)(p:List AH->Option AH):Prop:=Di P f=true/\∀args v,p args=some v->∀(H:AP) (K:AH->AP->Prop),K v H->AF P f args H K
def Kb.Ok(P:Program)(f:FuncId)(t:Kb):Prop:=match t.prim with
 |some p=>aI P f p
 |none=>Ao P f t.code t.nt t.n9=true
def Kc(P:Program)(O0:FuncId->Option Kb):Prop:=∀f t,O0 f=some t->t.Ok P f
theorem Iy{O0:FuncId->Option Kb}(ht:Kc P O0)(loops:Nat):∀k,Pl P (Wx O0 loops k)
 |0,_,_,_,_,_,h=>by cases h
 |k+1,f,args,H,v,H',h=>by
  simp only[Wx]at h
  split at h
  ·cases h
  rename_i t htf
  have hok:=ht f t htf
  unfold Kb.Ok at hok
  split at h
  ·rename_i p hp
   rw[hp]at hok
   simp only[Qc,Qb]at h
   obtain⟨v',hv,rfl,rfl⟩:=h
   exact⟨hok.1,λK hK=>hok.2 args v' hv H K hK⟩
  rename_i hp
  rw[hp]at hok
  simp only at hok
  refine⟨HZ hok,λK hK=> ?_⟩
  refine AF.enter hok ?_
  split at h
  ·cases h
  ·rename_i e s hne hex
   split at h
   ·rename_i l hl
    simp only[Qa,Qb]at h;obtain⟨rfl,rfl⟩:=h
    refine Fw (Iy ht loops k) _ loops t.code _ e s _ hex ?_
    cases e with
    |normal=>simp only[M6.Ll,M8,hl];exact hK
    |exit i=>exact absurd rfl (hne i)
    |ret=>simp only[M6.Ll,M8,hl];exact hK
   ·cases h
  ·cases h
end sound
inductive SE where
 |leaf
 |node (k:Nat) (t:Kb) (l r:SE)
def SE.find:SE->Nat->Option Kb
 | .leaf,_=>none
 | .node k t l r,f=>bif Nat.beq f k then some t else bif Nat.blt f k then l.find f else r.find f
def SE.Ok(P:Program):SE->Prop
 | .leaf=>True
 | .node k t l r=>t.Ok P k/\l.Ok P/\r.Ok P
theorem SE.ok{P:Program}:∀{T:SE},T.Ok P->Kc P T.find
 | .leaf,_,_,_,hf=>by cases hf
 | .node k t l r,h,f,t',hf=>by
  simp only[SE.find]at hf
  cases hk:Nat.beq f k with
  |true=>
   simp only[hk,cond_true,Qa]at hf;subst hf
   have:=Nat.eq_of_beq_eq_true hk;subst this
   exact h.1
  |false=>
   simp only[hk,cond_false]at hf
   cases hb:Nat.blt f k with
   |true=>simp only[hb,cond_true]at hf;exact SE.ok h.2.1 f t' hf
   |false=>simp only[hb,cond_false]at hf;exact SE.ok h.2.2 f t' hf
mutual
def AH.flat:AH->Bool
 | .int .. | .bool _| .str _| .lit _=>true
 | .agg l=>NK l
 | .Bj l=>NK l
 |_=>false
def NK:List AH->Bool
 |[]=>true
 |a::l=>AH.flat a&&NK l
end
mutual
theorem VR.flat{σ σ':B0}{H H':AP}:∀(a:AH) {v:Value},a.flat=true->VR σ H a v->VR σ' H' a v
 | .int ..,_,_,h=>by simpa only[VR] using h
 | .bool _,_,_,h=>by simpa only[VR] using h
 | .str _,_,_,h=>by simpa only[VR] using h
 | .lit _,_,_,h=>by simpa only[VR] using h
 | .agg l,_,hf,h=>by simp only[VR,AH.flat]at*;obtain⟨ha,cs,rfl,hc⟩:=h;exact⟨ha,cs,rfl,BQ.flat l hf hc⟩
 | .Bj l,_,hf,h=>by simp only[VR,AH.flat]at*;obtain⟨cs,rfl,hc⟩:=h;exact⟨cs,rfl,BQ.flat l hf hc⟩
 | .Dk,_,hf,_=>by simp[AH.flat]at hf
 | .ptr ..,_,hf,_=>by simp[AH.flat]at hf
 | .slice ..,_,hf,_=>by simp[AH.flat]at hf
 | .acc ..,_,hf,_=>by simp[AH.flat]at hf
 | .Kl ..,_,hf,_=>by simp[AH.flat]at hf
 | .map ..,_,hf,_=>by simp[AH.flat]at hf
 | .M1 ..,_,hf,_=>by simp[AH.flat]at hf
 | .func ..,_,hf,_=>by simp[AH.flat]at hf
 | .iface ..,_,hf,_=>by simp[AH.flat]at hf
theorem BQ.flat{σ σ':B0}{H H':AP}:∀(l:List AH) {r:List Value},NK l=true->BQ σ H l r->BQ σ' H' l r
 |[],[],_,_=>by simp
 |[],_::_,_,h=>by simp[BQ]at h
 |_::_,[],_,h=>by simp[BQ]at h
 |a::l,v::r,hf,h=>by
  simp only[NK,Qd]at hf
  rw[Bn]at h ⊢
  exact⟨VR.flat a hf.1 h.1,BQ.flat l hf.2 h.2⟩
end
theorem AF.flat{P:Program}{f:FuncId}{args:List AH}(ha:NK args=true){R:AH->Prop}(h:AF P f args [] λv _=>v.flat=true/\R v){H:AP}{K:AH->AP->Prop}(hK:∀v,R v->K v H):AF P f args H K:=by
 intro B σ w vs hR hV
 refine(h (·<w.heap.size) σ w vs ⟨λho=>by simp at ho,λho=>by simp at ho,λ_ h=>h⟩ (BQ.flat args ha hV)).mono ?_
 rintro e w' ⟨x,σ',v,H',rfl,⟨hf,hv⟩,-,hx,-,hb⟩
 refine⟨x,σ,v,H,rfl,hK v hv,⟨fun{o y} ho=> ?_,hR.apart,λk hk=>Nat.lt_of_lt_of_le (hR.base k hk) hb.size⟩,VR.flat v hf hx,Ext.refl _ _,hb.mono hR.base⟩
 have hr:=hR.obj ho
 -- a block that is read is an old one
 have CG:∀{k:Nat} {z:Obj},w.heap[k]?=some z->w'.heap[k]?=w.heap[k]?:=fun{k z} hz=>hb.block k (by
  rcases Nat.lt_or_ge k w.heap.size with h'|h'
  ·exact h'
  ·simp[Array.getElem?_eq_none h']at hz)
 cases y with
 |AU s xs ro=>
  obtain⟨h1,h2,h3⟩:=hr
  refine⟨h1,h2,h3.imp id ?_⟩
  rintro⟨c,e,fr,hbb,r⟩
  exact⟨c,e,fr,(CG hbb).trans hbb,r⟩
 |map es=>
  obtain⟨h1,ms,clock,hbb,r⟩:=hr
  exact⟨h1,ms,clock,(CG hbb).trans hbb,r⟩
 |iter s p=>exact⟨hr.1,(CG hr.2).trans hr.2⟩
 |A1=>trivial
theorem OQ{P:Program}{O0:FuncId->Option Kb}(ht:Kc P O0){f:FuncId}{args:List AH}{v:AH}{loops k:Nat}(h:(Wx O0 loops k f args []).map (·.1)=some v)(ha:NK args=true)(hv:v.flat=true){H:AP}{K:AH->AP->Prop}(hK:K v H):AF P f args H K:=by
 rw[Qc]at h
 obtain⟨⟨v',H'⟩,hr,rfl⟩:=h
 exact AF.flat ha (R:=λx=>x=v') ((Iy ht loops k f args [] _ _ hr).2 (λv _=>v.flat=true/\v=v') ⟨hv,rfl⟩) (λx hx=>hx▸hK)
end Go.Ax
