/- Texts put behind one another: PRow. Conditions: none. -/
import Derived.Test.YtfahkkefcdeohaaSRowZ
set_option linter.unusedSimpArgs false
set_option linter.unusedVariables false
namespace Go.Ax.M
open Go Go.Ax
structure Lasts (r : RowM) (been : List (List Int)) (sure sent : Int) : Prop where
  ok : r.ok
  eight : ∀ x ∈ been, x.length = 8
  some_ : 0 < been.length
  last : been.getD (been.length - 1) [] = r.nw
  s0 : 0 ≤ sure
  s1 : sure ≤ been.length - 1
  la : ∃ j : Nat, sure ≤ j ∧ j < been.length ∧ been.getD j [] = r.la
  sent : 0 ≤ sent → sent = been.length - 1 ∧ (r.out = true → r.sent = true)
  clean : r.out = false → r.la = r.nw
theorem lasts_start : Lasts row0 [row0.nw] 0 (-1) :=
  ⟨⟨rfl, rfl⟩, by simp [row0], by simp, rfl, by omega, by simp, ⟨0, by simp, by simp, rfl⟩, fun h => by omega, fun _ => rfl⟩
theorem lasts_store {r : RowM} {been : List (List Int)} {sure sent : Int} (h : Lasts r been sure sent) {q v : Int} (hq : 0 ≤ q ∧ q < 8) : Lasts (rowStore r q v) (been ++ [r.nw.set q.toNat v]) sure (-1) := by
  have hs := h.some_
  have h1 := h.s1
  refine ⟨store_ok h.ok q v, fun x hx => ?_, by simp, ?_, h.s0, by simp; omega, ?_, fun h => by omega, fun h' => by simp [rowStore, hq] at h'⟩
  · rcases List.mem_append.1 hx with hx | hx
    · exact h.eight x hx
    · simp at hx; rw [hx]; simp [h.ok.nw]
  · simp [rowStore, hq, List.getD]
  · obtain ⟨j, j1, j2, j3⟩ := h.la
    refine ⟨j, j1, by simp; omega, ?_⟩
    have e : (rowStore r q v).la = r.la := by simp only [rowStore]; split <;> rfl
    rw [e, ← j3]
    simp only [List.getD, List.getElem?_append_left j2]
theorem lasts_flush {r : RowM} {been : List (List Int)} {sure sent : Int} (h : Lasts r been sure sent) : Lasts (rowFlush r) been sure ((been.length : Int) - 1) :=
  ⟨flush_ok h.ok, h.eight, h.some_, h.last, h.s0, h.s1, h.la, fun _ => ⟨rfl, fun ho => by have ho : r.out = true := ho; simp [rowFlush, ho]⟩, h.clean⟩
theorem lasts_fence {r : RowM} {been : List (List Int)} {sure sent : Int} (h : Lasts r been sure sent) : Lasts (rowFence r) been (if 0 ≤ sent then sent else sure) sent := by
  have hs := h.some_
  have h0 := h.s0
  have h1 := h.s1
  have hb : 0 ≤ (if 0 ≤ sent then sent else sure) ∧ (if 0 ≤ sent then sent else sure) ≤ (been.length : Int) - 1 := by
    split
    · have := (h.sent (by assumption)).1; omega
    · omega
  have ev : (rowFence r).la = r.nw ∨ (r.out = true ∧ r.sent = false ∧ rowFence r = r) := by
    cases hr : r.sent with
    | true =>
      left
      cases ho : r.out with
      | true => simp [rowFence, rowEvict, hr, ho]
      | false => simp [rowFence, rowEvict, hr, ho]; exact h.clean ho
    | false =>
      cases ho : r.out with
      | true => exact .inr ⟨rfl, rfl, by simp [rowFence, hr]⟩
      | false => left; simp [rowFence, hr]; exact h.clean ho
  have hnw : (rowFence r).nw = r.nw := by
    simp only [rowFence, rowEvict]; split
    · split <;> rfl
    · rfl
  refine ⟨fence_ok h.ok, h.eight, hs, by rw [hnw]; exact h.last, hb.1, hb.2, ?_, fun hp => ⟨(h.sent hp).1, fun ho => ?_⟩, fun ho => ?_⟩
  · rcases ev with e | ⟨e1, e2, e3⟩
    · exact ⟨been.length - 1, by omega, by omega, by rw [e]; exact h.last⟩
    · rw [e3, if_neg (fun hp => by rw [(h.sent hp).2 e1] at e2; cases e2)]
      exact h.la
  · have h2 := (h.sent hp).2
    cases hr : r.sent with
    | true => cases ho' : r.out <;> simp [rowFence, rowEvict, hr, ho'] at ho ⊢
    | false => simp [rowFence, hr] at ho ⊢; rw [h2 ho] at hr; cases hr
  · rcases ev with e | ⟨e1, e2, e3⟩
    · rw [e, hnw]
    · rw [e3, e1] at ho; cases ho
theorem lasts_fall {r : RowM} {been : List (List Int)} {sure sent : Int} (h : Lasts r been sure sent) (k : Bool) :
    (∃ j : Nat, sure ≤ j ∧ j < been.length ∧ been.getD j [] = (rowFall k r).la) ∧ (rowFall k r).nw = (rowFall k r).la ∧ (k = true → (rowFall k r).nw = r.nw) := by
  have hs := h.some_
  have h1 := h.s1
  cases k with
  | true =>
    have e : (rowFall true r).la = r.nw ∧ (rowFall true r).nw = r.nw := by
      cases ho : r.out with
      | true => simp [rowFall, rowEvict, ho]
      | false => simp [rowFall, rowEvict, ho]; exact h.clean ho
    exact ⟨⟨been.length - 1, by omega, by omega, by rw [e.1]; exact h.last⟩, by rw [e.1, e.2], fun _ => e.2⟩
  | false =>
    have e : (rowFall false r).la = r.la ∧ (rowFall false r).nw = (rowFall false r).la := by
      cases ho : r.out with
      | true => simp [rowFall, ho]
      | false => simp [rowFall, ho]; exact (h.clean ho).symm
    exact ⟨by rw [e.1]; exact h.la, e.2, fun h => by cases h⟩
end Go.Ax.M
