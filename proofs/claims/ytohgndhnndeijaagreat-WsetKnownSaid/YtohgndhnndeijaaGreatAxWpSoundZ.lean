/- What is computed of the code holds of the program's code. Conditions: none. -/
import Derived.Test.YtohgndhnndeijaaGreatAxDrawZ
set_option linter.all false
open Bool renaming and_eq_true -> Qa, false_eq_true -> Qb
namespace Go.Ax
open Go Go.RowKit
theorem SD{P:Program}{o:A6}{K:St->Prop}{s:St}(h:Bu P o K s):o.op.JL=o.op:=by
 refine VP λj b e=> ?_
 simp only[Bu,e,AV]at h
theorem PA{P:Program}{ops:Array Oper}{B:Nat->Prop}{σ0:B0}{H0:AP}{w0:World}{K:St->Prop}{Q:Exit->Act->World->Prop}
 (hQ:∀s σ a w,K s->Holds B σ0 H0 w0 s σ a w->Q .normal a w):∀(l:List A6) (r:List Oper),DA P ops l r=true->∀(s:St) (σ:B0) (a:Act) (w:World),Eb P l K s->Holds B σ0 H0 w0 s σ a w->wpList P ops Q r a w
 |[],[],_,s,σ,a,w,h,hH=>hQ s σ a w h hH
 |[],_::_,h,_,_,_,_,_,_=>by simp[DA]at h
 |_::_,[],h,_,_,_,_,_,_=>by simp[DA]at h
 |ao::l,o::r,hok,s,σ,a,w,h,hH=>by
  simp only[DA,Qa]at hok
  obtain⟨h1,h2⟩:=hok
  have ih:=PA hQ l r h2
  have hg:JI ops ao.guard o.guard=true:=by
   simp only[EW,Qa]at h1;exact h1.1.2
  have hd:ao.dst=o.dst:=by
   simp only[EW,Qa,beq_iff_eq]at h1;exact h1.1.1
  simp only[Eb,nH]at h
  unfold JI at hg
  split at hg
  ·rename_i g1 g2
   simp only[g1]at h
   refine wpList_plain g2 λK' hK'=> ?_
   exact JV h1 (SD h) h hH (λs' σ' a' w' hs hh=>hK' _ _ (ih s' σ' a' w' hs hh))
  ·rename_i d b j b' g1 g2
   simp only[Qa,beq_iff_eq]at hg
   obtain⟨rfl,hj⟩:=hg
   simp only[g1]at h
   split at h
   case h_2=>exact h.elim
   rename_i g hgv
   simp only[Bm]at hgv
   -- the guard's value
   have hval:yielded ops a.tmps j=g:=PB hj hH.tmps hgv
   obtain⟨h3,h4⟩:=h
   unfold wpList
   by_cases hgb:g=some b
   ·rw[if_pos (by simp[Region.wanted,g2,hval,hgb])]
    exact .inl (JV h1 (SD (h3 hgb)) (h3 hgb) hH (λs' σ' a' w' hs hh=>ih s' σ' a' w' hs hh))
   ·rw[if_neg (by simp[Region.wanted,g2,hval,hgb])]
    refine ih _ σ _ w (h4 hgb) ?_
    rw[<-hd]
    exact hH.put ao.dst hH.rel Ls (Ext.refl _ _) (Kept.refl _ _)
  ·cases hg
theorem HL{P:Program}:∀(c:AD) (code:Code),codeOk P c code=true->∀(Q:Exit->St->Prop) (s:St) (B:Nat->Prop) (σ0:B0) (H0:AP) (w0:World) (σ:B0) (a:Act) (w:World),
 I9 P H0.length c Q s->Holds B σ0 H0 w0 s σ a w->code.wp P (aG B σ0 H0 w0 Q) a w
 | .Nx,_,_,_,_,_,_,_,_,_,_,_,h,_=>by cases h
 | .skip,code,hok,Q,s,B,σ0,H0,w0,σ,a,w,h,hH=>by
  cases code<;>simp[codeOk]at hok
  exact wp_skip (hH.lift h)
 | .ret,code,hok,Q,s,B,σ0,H0,w0,σ,a,w,h,hH=>by
  cases code<;>simp[codeOk]at hok
  exact wp_ret (hH.lift h)
 | .exit i,code,hok,Q,s,B,σ0,H0,w0,σ,a,w,h,hH=>by
  cases code<;>simp[codeOk]at hok
  subst hok
  exact wp_exit (hH.lift h)
 | .region l,code,hok,Q,s,B,σ0,H0,w0,σ,a,w,h,hH=>by
  cases code
  case region id ops d=>
   cases d
   case true=>simp[codeOk]at hok
   case false=>
    simp only[codeOk]at hok
    exact wp_region_list (PA (λs σ a w hs hh=>hh.lift hs) l _ hok s σ a w h hH)
  all_goals simp[codeOk]at hok
 | .drawn wl aft nb,code,hok,Q,s,B,σ0,H0,w0,σ,a,w,h,hH=>by
  cases code
  case region id ops d=>
   cases d
   case false=>simp[codeOk]at hok
   case true=>
    simp only[codeOk,Qa]at hok
    exact Uw hok.1.1 hok.1.2 hok.2 (by rw[Z5 hok.2];exact h) hH (λs σ a w hs hh=>hh.lift hs)
  all_goals simp[codeOk]at hok
 | .seq x y,code,hok,Q,s,B,σ0,H0,w0,σ,a,w,h,hH=>by
  cases code<;>simp[codeOk]at hok
  rename_i x' y'
  refine wp_seq (wp_mono (HL x x' hok.1 _ s B σ0 H0 w0 σ a w h hH) ?_)
  intro e a1 w1 hl
  obtain⟨s1,σ1,hq,hh⟩:=hl.holds
  cases e<;>(try simp only[O2,Exit.then]at hq ⊢)<;>first
   |exact HL y y' hok.2 Q s1 B σ0 H0 w0 σ1 a1 w1 hq hh
   |exact hh.lift hq
 | .cond c t e,code,hok,Q,s,B,σ0,H0,w0,σ,a,w,h,hH=>by
  cases code<;>simp only[codeOk,Qb,Qa]at hok
  rename_i c' t' e'
  obtain⟨⟨h1,h2⟩,h3⟩:=hok
  have hv:=Bi hH.tmps h1
  simp only[I9]at h
  split at h
  case h_2=>exact h.elim
  rename_i b hb
  rw[hb]at hv
  simp only[VR]at hv
  exact wp_cond_split hv (λhb=>HL t t' h2 Q s B σ0 H0 w0 σ a w (h.1 hb) hH) (λhb=>HL e e' h3 Q s B σ0 H0 w0 σ a w (h.2 hb) hH)
 | .block i c,code,hok,Q,s,B,σ0,H0,w0,σ,a,w,h,hH=>by
  cases code<;>simp[codeOk]at hok
  rename_i i' c'
  obtain⟨rfl,hok⟩:=hok
  refine wp_block (wp_mono (HL c c' hok _ s B σ0 H0 w0 σ a w h hH) ?_)
  intro e a1 w1 hl
  obtain⟨s1,σ1,hq,hh⟩:=hl.holds
  cases e<;>(try simp only[JZ,Exit.inBlock]at hq ⊢)<;>first
   |exact hh.lift hq
   |(
    split at hq
    ·rename_i he;subst he;simp only[if_true];exact hh.lift hq
    ·rename_i he;simp only[he,if_false];exact hh.lift hq)
 | .loop c,code,hok,Q,s,B,σ0,H0,w0,σ,a,w,h,hH=>by
  cases code<;>simp only[codeOk,Qb]at hok
  rename_i c'
  exact(h c' hok B σ0 H0 w0 σ a w rfl hH).wp
theorem AK.unfold{P:Program}{n0:Nat}{c:AD}{Q:Exit->St->Prop}{s:St}(h:I9 P n0 c (O2 (AK P n0 c Q) Q) s):AK P n0 c Q s:=by
 intro code hok B σ0 H0 w0 σ a w hn hH
 subst hn
 refine Mc.unfold (wp_mono (HL c code hok _ s B σ0 H0 w0 σ a w h hH) ?_)
 intro e a1 w1 hl
 obtain⟨s1,σ1,hq,hh⟩:=hl.holds
 cases e<;>(try simp only[O2,Exit.then]at hq ⊢)<;>first
  |exact hq code hok B σ0 H0 w0 σ1 a1 w1 rfl hh
  |exact hh.lift hq
def Jh:List AH->List AH->Prop
 |[],[]=>True
 |a::l,b::r=>(b= .Dk\/b=a)/\Jh l r
 |_,_=>False
theorem BQ.weaken{σ:B0}{H:AP}:∀{l r:List AH} {vs:List Value},Jh l r->BQ σ H l vs->BQ σ H r vs
 |[],[],_,_,h=>h
 |[],_::_,_,h,_=>by simp[Jh]at h
 |_::_,[],_,h,_=>by simp[Jh]at h
 |a::l,b::r,[],_,h=>by simp[BQ]at h
 |a::l,b::r,v::vs,hw,h=>by
  simp only[Jh]at hw
  rw[Bn]at h ⊢
  refine⟨?_,BQ.weaken hw.2 h.2⟩
  rcases hw.1 with rfl|rfl
  ·simp[VR]
  ·exact h.1
theorem AK.weaken{P:Program}{n0:Nat}{c:AD}{Q:Exit->St->Prop}{T T':List AH}{H:AP}(hw:Jh T T')(h:AK P n0 c Q ⟨T',H⟩):AK P n0 c Q ⟨T,H⟩:=
 λcode hok B σ0 H0 w0 σ a w hn hH=>h code hok B σ0 H0 w0 σ a w hn ⟨hH.rel,hH.tmps.weaken hw,hH.ext,hH.below,hH.defers⟩
theorem AA{P:Program}{n0:Nat}{c c':AD}(h:c=c'){Q:Exit->St->Prop}{s:St}:I9 P n0 c Q s=I9 P n0 c' Q s:=by rw[h]
theorem AK.cut{P:Program}{n0:Nat}{c:AD}{Q:Exit->St->Prop}{T:List AH}{H G:AP}(hn:n0<=H.length)(hT:M3 H.length T)(hH:aK H)(h:AK P n0 c Q ⟨T,H⟩):AK P n0 c Q ⟨T,H++G⟩:=
 λcode hok B σ0 H0 w0 σ a w e hh=>h code hok B σ0 H0 w0 σ a w e ⟨hh.rel.cut hH,hh.tmps.cut hT,hh.ext.cut (by omega),hh.below,hh.defers⟩
theorem AK.wf{P:Program}{n0:Nat}{c:AD}{Q:Exit->St->Prop}{s:St}(h:aK s.H->M3 s.H.length s.T->n0<=s.H.length->AK P n0 c Q s):AK P n0 c Q s:=
 λcode hok B σ0 H0 w0 σ a w e hh=>h hh.rel.wf hh.tmps.wf (by rw[<-e];exact hh.ext.size) code hok B σ0 H0 w0 σ a w e hh
theorem AF.cut{P:Program}{f:FuncId}{args:List AH}{H:AP}{K:AH->AP->Prop}
 (h:AF P f args H λv H'=>∃H1 G,H'=H1++G/\H.length<=H1.length/\v.wf H1.length/\(aK H->aK H1)/\K v H1):AF P f args H K:=
 λB σ w vs hR hV=>(h B σ w vs hR hV).mono λ_ _ ⟨x,σ',v,_,he,⟨H1,G,rfl,hl,hv,hw,hK⟩,hR',hx,hext,hb⟩=>
  ⟨x,σ',v,H1,he,hK,hR'.cut (hw hR.wf),hx.cut hv,hext.cut hl,hb⟩
theorem AF.wf{P:Program}{f:FuncId}{args:List AH}{H:AP}{K:AH->AP->Prop}(h:aK H->M3 H.length args->AF P f args H K):AF P f args H K:=
 λB σ w vs hR hV=>h hR.wf hV.wf B σ w vs hR hV
theorem AF.iZ{P:Program}{f:FuncId}{args:List AH}{H:AP}{K:AH->AP->Prop}(h:AF P f args H λv H'=>v.plain=true/\∃H1 G,H'=H1++G/\H.length<=H1.length/\(aK H->aK H1)/\K v H1):AF P f args H K:=
 AF.cut (h.mono λv H' ⟨hv,H1,G,e,hl,hw,hk⟩=>⟨H1,G,e,hl,SB hv,hw,hk⟩)
theorem oW{c c':AD}(h:c=c'):∀(P:Program) (n:Nat) (Q:Exit->St->Prop) (s:St),I9 P n c Q s=I9 P n c' Q s:=λ_ _ _ _=>AA h
theorem aW{c c':AD}(h:c=c'){b:Prop}(y:b):(∀(P:Program) (n:Nat) (Q:Exit->St->Prop) (s:St),I9 P n c Q s=I9 P n c' Q s)/\b:=⟨oW h,y⟩
end Go.Ax
