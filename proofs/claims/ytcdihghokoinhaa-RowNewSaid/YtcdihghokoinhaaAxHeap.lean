/- Places in a heap that has grown by a few objects. Conditions: none. -/
import Derived.Test.YtcdihghokoinhaaAxDrawT
namespace Go.Ax
open Go
set_option linter.unusedVariables false

section
variable {H : Heap} {a b c d e x : AObj} {L : Heap}
theorem at0 : (H ++ a :: L)[H.length]? = some a := by rw [List.getElem?_append_right (Nat.le_refl _)]; simp
theorem at1 : (H ++ a :: b :: L)[H.length + 1]? = some b := by rw [List.getElem?_append_right (by omega)]; simp
theorem at2 : (H ++ a :: b :: c :: L)[H.length + 2]? = some c := by rw [List.getElem?_append_right (by omega)]; simp
theorem at3 : (H ++ a :: b :: c :: d :: L)[H.length + 3]? = some d := by rw [List.getElem?_append_right (by omega)]; simp
theorem at4 : (H ++ a :: b :: c :: d :: e :: L)[H.length + 4]? = some e := by rw [List.getElem?_append_right (by omega)]; simp
theorem set0 : (H ++ a :: L).set H.length x = H ++ x :: L := by rw [List.set_append_right _ _ (Nat.le_refl _)]; simp
theorem set1 : (H ++ a :: b :: L).set (H.length + 1) x = H ++ a :: x :: L := by rw [List.set_append_right _ _ (by omega)]; simp
theorem set2 : (H ++ a :: b :: c :: L).set (H.length + 2) x = H ++ a :: b :: x :: L := by rw [List.set_append_right _ _ (by omega)]; simp
theorem set3 : (H ++ a :: b :: c :: d :: L).set (H.length + 3) x = H ++ a :: b :: c :: x :: L := by rw [List.set_append_right _ _ (by omega)]; simp
theorem set4 : (H ++ a :: b :: c :: d :: e :: L).set (H.length + 4) x = H ++ a :: b :: c :: d :: x :: L := by rw [List.set_append_right _ _ (by omega)]; simp
theorem old_get {o : Nat} (h : H[o]? = some a) : (H ++ L)[o]? = some a := by rw [List.getElem?_append_left (List.getElem?_eq_some_iff.1 h).1]; exact h
end

/-- Objects without names do no harm. -/
def AObj.plainO : AObj → Bool
  | .arr _ xs _ => xs.all plains
  | .map es => plains (es.map (·.1)) && plains (es.map (·.2))
  | .iter _ _ => true

theorem AObj.wf_of_plain {n : Nat} : ∀ {x : AObj}, x.plainO = true → x.wf n
  | .arr _ xs _, h => fun x hx => wfs_of_flat (List.all_eq_true.1 h x hx)
  | .map es, h => by simp only [AObj.plainO, Bool.and_eq_true] at h; exact ⟨wfs_of_flat h.1, wfs_of_flat h.2⟩
  | .iter _ _, _ => trivial

theorem AObj.wf_mono {n m : Nat} (h : n ≤ m) : ∀ {x : AObj}, x.wf n → x.wf m
  | .arr _ xs _, hx => fun x hm => wfs_mono h (hx x hm)
  | .map es, hx => ⟨wfs_mono h hx.1, wfs_mono h hx.2⟩
  | .iter _ _, _ => trivial

theorem WfH.push {H L : Heap} (h : WfH H) (hp : L.all AObj.plainO = true) : WfH (H ++ L) := by
  intro o x ho
  rcases Nat.lt_or_ge o H.length with hl | hl
  · rw [List.getElem?_append_left hl] at ho
    exact AObj.wf_mono (by simp) (h o x ho)
  · rw [List.getElem?_append_right hl] at ho
    exact AObj.wf_of_plain (List.all_eq_true.1 hp x (List.mem_of_getElem? ho))

/-- At a loop's head: forget temporaries, let objects go. -/
theorem ALoop.back {P : Program} {n0 : Nat} {c : ACode} {Q : Exit → St → Prop} {T T' : List AVal} {H G : Heap} (hw : weaker T T') (hn : n0 ≤ H.length) (hT : wfs H.length T') (hH : WfH H) (h : ALoop P n0 c Q ⟨T', H⟩) : ALoop P n0 c Q ⟨T, H ++ G⟩ :=
  ALoop.weaken hw (ALoop.cut hn hT hH h)

end Go.Ax
