/- A function of the program, entered: what is computed of its body holds of its calls. Conditions: none. -/
import Derived.Test.YtlaipllgmddkiaaGreatAxWpSoundZ
set_option linter.all false
namespace Go.Ax
open Go Go.RowKit
inductive ARes where
 | t (n : Nat)
 | c (n : Nat) (size : Option Nat)
def resOk (P : Program) : List ARes → List ResultVar → Bool
 | [], [] => true
 | .t n :: l, .tmp m :: r => n == m && resOk P l r
 | .c n k :: l, .cell m t :: r => n == m && ldOk P t k && resOk P l r
 | _, _ => false
def aRes (s : St) : List ARes → Option (List AVal)
 | [] => some []
 | .t n :: l => match aRes s l with
  | some r => some (s.T.getD n .top :: r)
  | none => none
 | .c n k :: l => match aStep s.T s.H (.ld k (.t n)), aRes s l with
  | some (v, _), some r => some (v :: r)
  | _, _ => none
def aTuple : List AVal → AVal
 | [v] => v
 | l => .tup l
def bodyX (rs : List ARes) (K : AVal → Heap → Prop) : Exit → St → Prop
 | .normal, s => match aRes s rs with
  | some l => K (aTuple l) s.H
  | none => False
 | .ret, s => match aRes s rs with
  | some l => K (aTuple l) s.H
  | none => False
 | _, _ => False
def fnOk (P : Program) (f : FuncId) (c : ACode) (nt : Nat) (rs : List ARes) : Bool := match P.funcs[f]? with
 | some fn => (match fn.body with
  | some code => codeOk P c code && fn.ntmps == nt && resOk P rs fn.results.toList && fn.name != "runtime.NumGoroutine"
  | none => false)
 | none => false
theorem callable_fn {P : Program} {f : FuncId} {c : ACode} {nt : Nat} {rs : List ARes} (h : fnOk P f c nt rs = true) : callable P f = true := by
 unfold fnOk at h
 unfold callable
 split at h
 case h_2 => cases h
 rename_i fn hf
 split at h
 case h_2 => cases h
 rename_i code hb
 simp only [Bool.and_eq_true] at h
 simp only [hf, hb, Option.isSome_some, Bool.true_and]
 exact h.2
def resOne (tmps : Array Value) : ResultVar → Sem Value
 | .tmp t => pure (tmps.getD t undef)
 | .cell x t => do loadVar t (← asAddr (tmps.getD x undef))
theorem results_eq (fn : Func) (tmps : Array Value) : results fn tmps = (do let vs ← fn.results.mapM (resOne tmps); pure (if h : vs.size = 1 then vs[0] else .tuple vs)) := by
 unfold results
 congr 1
theorem run_results {P : Program} {s : St} {B : Nat → Prop} {σ : Sig} {a : Act} {w : World} (hR : RelH B σ s.H w) (hT : VRs σ s.H s.T a.tmps.toList) : ∀ (rs : List ARes) (r : List ResultVar) (l : List AVal), resOk P rs r = true → aRes s rs = some l →
 ∃ xs : List Value, (r.mapM (resOne a.tmps)).run P w = .ok xs w ∧ VRs σ s.H l xs
 | [], [], l, _, h => by
  simp only [aRes, Option.some.injEq] at h; subst h
  exact ⟨[], by simp, by simp⟩
 | .t n :: rs, .tmp m :: r, l, hok, h => by
  simp only [resOk, Bool.and_eq_true, beq_iff_eq] at hok
  obtain ⟨rfl, hok⟩ := hok
  simp only [aRes] at h
  split at h
  case h_2 => cases h
  rename_i l' hl
  injection h with h; subst h
  obtain ⟨xs, h1, h2⟩ := run_results hR hT rs r l' hok hl
  refine ⟨a.tmps.getD n undef :: xs, ?_, ?_⟩
  ·rw [List.mapM_cons, Sem.run_bind, show resOne a.tmps (.tmp n) = pure (a.tmps.getD n undef) from rfl, Sem.run_pure, Result.andThen_ok, Sem.run_bind, h1]
   simp
  ·rw [VRs_cons]
   exact ⟨VR_arg (x := .t n) (y := .tmp n) hT (by simp [argOk]), h2⟩
 | .c n k :: rs, .cell m t :: r, l, hok, h => by
  simp only [resOk, Bool.and_eq_true, beq_iff_eq] at hok
  obtain ⟨⟨rfl, hld⟩, hok⟩ := hok
  simp only [aRes] at h
  split at h
  case h_2 => cases h
  rename_i v H' l' hv hl
  injection h with h; subst h
  obtain ⟨xs, h1, h2⟩ := run_results hR hT rs r l' hok hl
  obtain ⟨-, ad, u, hx, hrun, hr⟩ := ld_run (VR_arg (x := .t n) (y := .tmp n) hT (by simp [argOk])) hld hv hR
  refine ⟨u :: xs, ?_, by rw [VRs_cons]; exact ⟨hr, h2⟩⟩
  have hx' : a.tmps.getD n undef = .pointer (some ad) := hx
  have h0 : (resOne a.tmps (.cell n t)).run P w = .ok u w := by
   show (do loadVar t (← asAddr (a.tmps.getD n undef)) : Sem Value).run P w = _
   rw [Sem.run_bind, hx']
   simp only [asAddr, Sem.run_pure, Result.andThen_ok, hrun]
  rw [List.mapM_cons, Sem.run_bind, h0, Result.andThen_ok, Sem.run_bind, h1]
  simp
 | [], _ :: _, _, h, _ => by simp [resOk] at h
 | .t _ :: _, [], _, h, _ => by simp [resOk] at h
 | .c _ _ :: _, [], _, h, _ => by simp [resOk] at h
 | .t _ :: _, .cell _ _ :: _, _, h, _ => by simp [resOk] at h
 | .c _ _ :: _, .tmp _ :: _, _, h, _ => by simp [resOk] at h
theorem ACalls.enter {P : Program} {f : FuncId} {c : ACode} {nt : Nat} {rs : List ARes} (hok : fnOk P f c nt rs = true) {args : List AVal} {H : Heap} {K : AVal → Heap → Prop}
 (h : wpx P H.length c (bodyX rs K) ⟨args ++ List.replicate (nt - args.length) .top, H⟩) : ACalls P f args H K := by
 intro B σ w vs hR hV
 unfold fnOk at hok
 split at hok
 case h_2 => cases hok
 rename_i fn hf
 split at hok
 case h_2 => cases hok
 rename_i code hb
 simp only [Bool.and_eq_true, beq_iff_eq] at hok
 obtain ⟨⟨⟨hc, rfl⟩, hres⟩, -⟩ := hok
 have hvl := hV.length
 refine calls_of_wp hf hb ?_
 have hH : Holds B σ H w ⟨args ++ List.replicate (fn.ntmps - args.length) .top, H⟩ σ { tmps := vs.toArray ++ Array.replicate (fn.ntmps - vs.toArray.size) undef, defers := [] } w :=
  ⟨hR, by
   simp only [Array.toList_append, Array.toList_replicate]
   refine hV.append (VRs_replicate_top _ _ ?_)
   simp [hvl], Ext.refl _ _, Kept.refl _ _, rfl⟩
 refine wp_mono (wpx_sound c code hc _ _ B σ H w σ _ w h hH) ?_
 intro e a1 w1 hl
 obtain ⟨s1, σ1, hq, hh⟩ := hl.holds
 have fin : (match aRes s1 rs with | some l => K (aTuple l) s1.H | none => False) → a1.defers = [] ∧ ∃ v, (results fn a1.tmps).run P w1 = .ok v w1 ∧
  (∃ x σ' v' H', Ending.returned v = .returned x ∧ K v' H' ∧ RelH B σ' H' w1 ∧ VR σ' H' v' x ∧ Ext σ H σ' H' ∧ Kept B w w1) := by
  intro hq
  split at hq
  case h_2 => exact hq.elim
  rename_i l hl
  obtain ⟨xs, h1, h2⟩ := run_results hh.rel hh.tmps rs fn.results.toList l hres hl
  have hm : (fn.results.mapM (resOne a1.tmps)).run P w1 = .ok xs.toArray w1 := by
   rw [Array.mapM_eq_mapM_toList, Sem.run_map, h1]; rfl
  refine ⟨hh.defers, if h : xs.toArray.size = 1 then xs.toArray[0] else .tuple xs.toArray, ?_, _, σ1, aTuple l, s1.H, rfl, hq, hh.rel, ?_, hh.ext, hh.below⟩
  ·rw [results_eq, Sem.run_bind, hm]
   simp
  ·match l, xs, h2 with
   | [], [], _ => simp [aTuple, VR]
   | [v], [x], h2 => rw [VRs_cons] at h2; simpa [aTuple] using h2.1
   | v :: v' :: l, x :: x' :: xs, h2 => simp only [aTuple, VR]; exact ⟨(x :: x' :: xs).toArray, by simp, by simpa using h2⟩
   | [], _ :: _, h2 => simp [VRs] at h2
   | _ :: _, [], h2 => simp [VRs] at h2
   | [_], _ :: _ :: _, h2 => simp [VRs] at h2
   | _ :: _ :: _, [_], h2 => simp [VRs] at h2
 cases e <;> simp only [bodyX, bodyPost] at hq ⊢ <;> exact fin hq
end Go.Ax
