/- One operation, whatever stands behind it. Conditions: none. -/
import Derived.Test.YtlaipllgmddkiaaGreatAxWpZ
set_option linter.unusedSimpArgs false
set_option linter.unusedVariables false
set_option linter.defProp false
namespace Go.Ax
open Go Go.RowKit
theorem VRs_put {σ : Sig} {H : Heap} {T : List AVal} {a : Act} (h : VRs σ H T a.tmps.toList) (dst : Option Nat) {v : AVal} {x : Value} (hv : VR σ H v x) : VRs σ H (setDst T dst v) (a.put dst x).tmps.toList := by
 cases dst with
 | none => exact h
 | some d => simp only [setDst, Act.put, Array.toList_setIfInBounds]; exact h.set d hv
theorem put_defers (a : Act) (dst : Option Nat) (x : Value) : (a.put dst x).defers = a.defers := by cases dst <;> rfl
theorem Holds.put {B : Nat → Prop} {σ0 : Sig} {H0 : Heap} {w0 : World} {s : St} {σ : Sig} {a : Act} {w : World} (h : Holds B σ0 H0 w0 s σ a w) (dst : Option Nat) {σ' : Sig} {H' : Heap} {w' : World} {v : AVal} {x : Value}
 (hR : RelH B σ' H' w') (hv : VR σ' H' v x) (hx : Ext σ s.H σ' H') (hb : Kept B w w') : Holds B σ0 H0 w0 ⟨setDst s.T dst v, H'⟩ σ' (a.put dst x) w' :=
 ⟨hR, VRs_put (h.tmps.ext hx) dst hv, h.ext.trans hx, h.below.trans hb, by rw [put_defers]; exact h.defers⟩
theorem run_callFunc {P : Program} {f : FuncId} {fn : Func} (hf : P.funcs[f]? = some fn) (hb : fn.body.isSome = true) (hn : fn.name ≠ "runtime.NumGoroutine") (args : Array Value) (w : World) : (callFunc f args).run P w = .ok (.enter f args) w := by
 obtain ⟨c, hc⟩ := Option.isSome_iff_exists.1 hb
 simp [callFunc, hf, hn, hc]
theorem map_eval_toArray {a : Act} {l : Array Operand} : (l.map a.eval) = (l.toList.map a.eval).toArray := by
 apply Array.ext'; simp
theorem callable_of {P : Program} {f : FuncId} (h : callable P f = true) : ∃ fn, P.funcs[f]? = some fn ∧ fn.body.isSome = true ∧ fn.name ≠ "runtime.NumGoroutine" := by
 unfold callable at h
 split at h
 ·rename_i fn hf
  simp only [Bool.and_eq_true, bne_iff_ne, ne_eq] at h
  exact ⟨fn, hf, h.1, h.2⟩
 ·cases h
theorem VR_skip {σ : Sig} {H : Heap} : VR σ H skipV undef := by
 simp only [skipV, VR]
 exact ⟨#[], rfl, trivial⟩
theorem yielded_gof {ops : Array Oper} {j d : Nat} {σ : Sig} {H : Heap} {T : List AVal} {tmps : Array Value} {g : Option Bool} (hj : (ops[j]?).bind (·.dst) = some d) (hT : VRs σ H T tmps.toList) (hg : gof (T.getD d .top) = some g) : yielded ops tmps j = g := by
 cases ht : T[d]? with
 | none => simp [List.getD, ht, gof] at hg
 | some y =>
  simp [List.getD, ht] at hg
  obtain ⟨u, hu, hr⟩ := hT.get ht
  rw [Array.getElem?_toList] at hu
  unfold gof at hg
  split at hg
  ·injection hg with hg; subst hg
   simp only [VR] at hr
   subst hr
   simp [yielded, hj, hu]
  ·injection hg with hg; subst hg
   simp only [VR] at hr
   obtain ⟨vs, rfl, hvs⟩ := hr
   simp [yielded, hj, hu]
  ·cases hg
theorem wpOne_sound {P : Program} {ops : Array Oper} {ao : AOper} {o : Oper} (hok : operOk P ops ao o = true) (hnb : ao.op.plainOp = ao.op) {K : St → Prop} {s : St} (h : xOne P ao K s) {B : Nat → Prop} {σ0 : Sig} {H0 : Heap} {w0 : World} {σ : Sig} {a : Act} {w : World}
 (hH : Holds B σ0 H0 w0 s σ a w) {next : Act → World → Prop} {Q : Exit → Act → World → Prop} (hn : ∀ s' σ' a' w', K s' → Holds B σ0 H0 w0 s' σ' a' w' → next a' w') : o.wp P a w next Q := by
 simp only [operOk, Bool.and_eq_true, Bool.or_eq_true, beq_iff_eq] at hok
 obtain ⟨⟨hd, hg⟩, hop⟩ := hok
 rw [hnb] at hop
 unfold xOne at h
 unfold Oper.wp
 split at h
 ·rename_i f args hao
  rw [hao] at hop
  have hcall : callOk (.call f args) o.op = true ∧ callable P f = true := by
   rcases hop with hop | hop
   ·cases ho : o.op <;> simp [okOp] at hop
   ·exact hop
  obtain ⟨hc, hcl⟩ := hcall
  obtain ⟨fn, hf, hb, hnm⟩ := callable_of hcl
  unfold callOk at hc
  split at hc
  case h_3 => cases hc
  case h_2 => rename_i e1 _; cases e1
  rename_i f' args' g cargs at' e1 e2
  injection e1 with e1 e1'; subst e1; subst e1'
  simp only [Bool.and_eq_true, beq_iff_eq] at hc
  obtain ⟨rfl, hargs⟩ := hc
  have hv := VR_args hH.tmps hargs
  have hrun : (execOp a.eval o).run P w = .ok (.enter f ((cargs.toList.map a.eval).toArray)) w := by
   simp only [execOp, e2, resolve, Deferred.ofValue, Act.eval, Sem.run_bind, Sem.run_pure, Result.andThen_ok, invoke]
   rw [run_callFunc hf hb hnm]
   simp [map_eval_toArray]
  rw [hrun]
  simp only [Oper.upon]
  refine (h B σ w _ hH.rel hv).mono ?_
  rintro e w' ⟨x, σ', v, H', rfl, hK, hR, hx, hext, hbel⟩
  rw [← hd]
  exact hn _ _ _ _ hK (hH.put ao.dst hR hx hext hbel)
 ·rename_i y args hao
  rw [hao] at hop
  split at h
  case h_2 => exact h.elim
  rename_i f cap hfv
  obtain ⟨hcl, h⟩ := h
  have hc : callOk (.callv y args) o.op = true := by
   rcases hop with hop | hop
   ·cases ho : o.op <;> simp [okOp] at hop
   ·exact hop.1
  obtain ⟨fn, hf, hb, hnm⟩ := callable_of hcl
  unfold callOk at hc
  split at hc
  case h_3 => cases hc
  case h_1 => rename_i e1 _; cases e1
  rename_i y' args' yv cargs at' e1 e2
  injection e1 with e1 e1'; subst e1; subst e1'
  simp only [Bool.and_eq_true] at hc
  obtain ⟨hy, hargs⟩ := hc
  have hv := VR_args hH.tmps hargs
  have hyv := VR_arg hH.tmps hy
  rw [hfv] at hyv; simp only [VR] at hyv
  obtain ⟨cs, hcs, hcap⟩ := hyv
  have hrun : (execOp a.eval o).run P w = .ok (.enter f ((cargs.toList.map a.eval) ++ cs.toList).toArray) w := by
   simp only [execOp, e2, resolve, Deferred.ofValue, hcs, Sem.run_bind, Sem.run_pure, Result.andThen_ok, invoke]
   rw [run_callFunc hf hb hnm]
   simp [map_eval_toArray]
  rw [hrun]
  simp only [Oper.upon]
  refine (h B σ w _ hH.rel (hv.append hcap)).mono ?_
  rintro e w' ⟨x, σ', v, H', rfl, hK, hR, hx, hext, hbel⟩
  rw [← hd]
  exact hn _ _ _ _ hK (hH.put ao.dst hR hx hext hbel)
 ·rename_i hne hne'
  split at h
  case h_2 => exact h.elim
  rename_i v H' hst
  have hop' : okOp P ao.op o.op = true := by
   rcases hop with hop | ⟨hop, -⟩
   ·exact hop
   ·unfold callOk at hop
    split at hop
    ·rename_i hao _; exact absurd hao (hne _ _)
    ·rename_i hao _; exact absurd hao (hne' _ _)
    ·cases hop
  obtain ⟨σ', x, w', hrun, hR, hx, hext, hbel⟩ := step_sound hop' hst hH.rel hH.tmps
  have := hn _ _ _ _ h (hH.put ao.dst hR hx hext hbel)
  rw [hd] at this
  rcases hrun with hrun | ⟨hrun, rfl⟩
  ·rw [hrun]; exact this
  ·rw [hrun]; exact this
end Go.Ax
