/- One operation, whatever stands behind it. Conditions: none. -/
import Derived.Test.YtcdihghokoinhaaAxWp
namespace Go.Ax
open Go Go.RowKit
set_option linter.unusedVariables false

theorem VRs_put {σ : Sig} {H : Heap} {T : List AVal} {a : Act} (h : VRs σ H T a.tmps.toList) (dst : Option Nat) {v : AVal} {x : Value} (hv : VR σ H v x) : VRs σ H (setDst T dst v) (a.put dst x).tmps.toList := by
  cases dst with
  | none => exact h
  | some d => simp only [setDst, Act.put, Array.toList_setIfInBounds]; exact h.set d hv

theorem put_defers (a : Act) (dst : Option Nat) (x : Value) : (a.put dst x).defers = a.defers := by cases dst <;> rfl

theorem Holds.put {B : Nat} {σ0 : Sig} {H0 : Heap} {w0 : World} {s : St} {σ : Sig} {a : Act} {w : World} (h : Holds B σ0 H0 w0 s σ a w) (dst : Option Nat) {σ' : Sig} {H' : Heap} {w' : World} {v : AVal} {x : Value}
    (hR : RelH B σ' H' w') (hv : VR σ' H' v x) (hx : Ext σ s.H σ' H') (hb : Below B w w') : Holds B σ0 H0 w0 ⟨setDst s.T dst v, H'⟩ σ' (a.put dst x) w' :=
  ⟨hR, VRs_put (h.tmps.ext hx) dst hv, h.ext.trans hx, h.below.trans hb, by rw [put_defers]; exact h.defers⟩

theorem run_callFunc {P : Program} {f : FuncId} {fn : Func} (hf : P.funcs[f]? = some fn) (hb : fn.body.isSome = true) (hn : fn.name ≠ "runtime.NumGoroutine") (args : Array Value) (w : World) : (callFunc f args).run P w = .ok (.enter f args) w := by
  obtain ⟨c, hc⟩ := Option.isSome_iff_exists.1 hb
  simp [callFunc, hf, hn, hc]

theorem map_eval_toArray {a : Act} {l : Array Operand} : (l.map a.eval) = (l.toList.map a.eval).toArray := by
  apply Array.ext'; simp

/-- One operation: whatever stands behind it. -/
theorem wpOne_sound {P : Program} {ops : Array Oper} {ao : AOper} {o : Oper} (hok : operOk P ops ao o = true) {K : St → Prop} {s : St} (h : xOne P ao K s) {B : Nat} {σ0 : Sig} {H0 : Heap} {w0 : World} {σ : Sig} {a : Act} {w : World}
    (hH : Holds B σ0 H0 w0 s σ a w) {next : Act → World → Prop} {Q : Exit → Act → World → Prop} (hn : ∀ s' σ' a' w', K s' → Holds B σ0 H0 w0 s' σ' a' w' → next a' w') : o.wp P a w next Q := by
  simp only [operOk, Bool.and_eq_true, Bool.or_eq_true, beq_iff_eq] at hok
  obtain ⟨⟨hd, hg⟩, hop⟩ := hok
  unfold xOne at h
  unfold Oper.wp
  split at h
  · rename_i f args hao
    rw [hao] at hop
    have hcall : callOk (.call f args) o.op = true ∧ ∃ fn, P.funcs[f]? = some fn ∧ fn.body.isSome = true ∧ fn.name ≠ "runtime.NumGoroutine" := by
      rcases hop with hop | hop
      · cases ho : o.op <;> simp [okOp] at hop
      · obtain ⟨h1, h2⟩ := hop
        refine ⟨h1, ?_⟩
        simp only at h2
        split at h2
        · rename_i fn hf
          simp only [Bool.and_eq_true, bne_iff_ne, ne_eq] at h2
          exact ⟨fn, hf, h2.1, h2.2⟩
        · cases h2
    obtain ⟨hc, fn, hf, hb, hnm⟩ := hcall
    unfold callOk at hc
    split at hc
    case h_2 => cases hc
    rename_i f' args' g cargs at' e1 e2
    injection e1 with e1 e1'; subst e1; subst e1'
    simp only [Bool.and_eq_true, beq_iff_eq] at hc
    obtain ⟨rfl, hargs⟩ := hc
    have hv := VR_args hH.tmps hargs
    have hrun : (execOp a.eval o).run P w = .ok (.enter f ((cargs.toList.map a.eval).toArray)) w := by
      simp only [execOp, e2, resolve, Deferred.ofValue, Act.eval, Sem.run_bind, Sem.run_pure, Result.andThen_ok, invoke]
      rw [run_callFunc hf hb hnm]
      simp [map_eval_toArray]
    rw [hrun]
    simp only [Oper.upon]
    refine (h B σ w _ hH.rel hv).mono ?_
    rintro e w' ⟨x, σ', v, H', rfl, hK, hR, hx, hext, hbel⟩
    rw [← hd]
    exact hn _ _ _ _ hK (hH.put ao.dst hR hx hext hbel)
  · rename_i hne
    split at h
    case h_2 => exact h.elim
    rename_i v H' hst
    have hop' : okOp P ao.op o.op = true := by
      rcases hop with hop | ⟨-, hop⟩
      · exact hop
      · split at hop
        · rename_i f args hao; exact absurd hao (hne f args)
        · cases hop
    obtain ⟨σ', x, w', hrun, hR, hx, hext, hbel⟩ := step_sound hop' hst hH.rel hH.tmps
    have := hn _ _ _ _ h (hH.put ao.dst hR hx hext hbel)
    rw [hd] at this
    rcases hrun with hrun | ⟨hrun, rfl⟩
    · rw [hrun]; exact this
    · rw [hrun]; exact this

end Go.Ax
