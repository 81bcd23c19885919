/- Closed calls that yield a state, by a run. Conditions: none. -/
import Derived.Test.YtlaipllgmddkiaaGreatAxLiftZ
import Derived.Test.YtlaipllgmddkiaaGreatMStateZ
set_option linter.all false
namespace Go.Ax.M
open Go Go.Ax
mutual
theorem shift_plain {n : Nat} : ∀ {a : AVal}, a.plain = true → a.shift n = a
 | .int .., _ => rfl
 | .bool _, _ => rfl
 | .str _, _ => rfl
 | .lit _, _ => rfl
 | .top, _ => rfl
 | .agg l, h => by simp only [AVal.plain] at h; simp only [AVal.shift, shifts_plain h]
 | .tup l, h => by simp only [AVal.plain] at h; simp only [AVal.shift, shifts_plain h]
 | .ptr .., h => by simp [AVal.plain] at h
 | .slice .., h => by simp [AVal.plain] at h
 | .acc .., h => by simp [AVal.plain] at h
 | .isl .., h => by simp [AVal.plain] at h
 | .map .., h => by simp [AVal.plain] at h
 | .itr .., h => by simp [AVal.plain] at h
 | .func .., h => by simp [AVal.plain] at h
 | .iface .., h => by simp [AVal.plain] at h
theorem shifts_plain {n : Nat} : ∀ {l : List AVal}, plains l = true → shifts n l = l
 | [], _ => rfl
 | a :: l, h => by
  simp only [plains, Bool.and_eq_true] at h
  simp only [shifts, shift_plain h.1, shifts_plain h.2]
end
def rowsBeq : List (List AVal) → List (List AVal) → Bool
 | [], [] => true
 | x :: l, y :: r => vBeqs x y && rowsBeq l r
 | _, _ => false
theorem rowsBeq_eq : ∀ {l r : List (List AVal)}, rowsBeq l r = true → l = r
 | [], [], _ => rfl
 | [], _ :: _, h => by simp [rowsBeq] at h
 | _ :: _, [], h => by simp [rowsBeq] at h
 | x :: l, y :: r, h => by
  simp only [rowsBeq, Bool.and_eq_true] at h
  rw [vBeqs_eq _ _ h.1, rowsBeq_eq h.2]
def objBeq : Option AObj → AObj → Bool
 | some (.arr s xs false), .arr s' ys false => Nat.beq s s' && rowsBeq xs ys
 | _, _ => false
theorem objBeq_eq {x : Option AObj} {y : AObj} (h : objBeq x y = true) : x = some y := by
 unfold objBeq at h
 split at h
 ·simp only [Bool.and_eq_true] at h
  rw [Nat.eq_of_beq_eq_true h.1, rowsBeq_eq h.2]
 ·cases h
def chkState (s : State) (i j : Nat) (f f' : Bool) : Option (AVal × Heap) → Bool
 | some (v, H) => vBeq v (stV s i j f f') && (objBeq H[i]? (slotsO s) && objBeq H[j]? (thingsO s))
 | none => false
theorem shift_rows {n : Nat} {xs : List (List AVal)} (h : ∀ x ∈ xs, ∀ a ∈ x, a.plain = true) : xs.map (shifts n) = xs := by
 conv => rhs; rw [← List.map_id xs]
 refine List.map_congr_left fun x hx => ?_
 have : plains x = true := by
  have hh := h x hx
  clear h hx
  induction x with
  | nil => rfl
  | cons a l ih => simp only [plains, Bool.and_eq_true]; exact ⟨hh a List.mem_cons_self, ih fun b hb => hh b (List.mem_cons_of_mem _ hb)⟩
 exact shifts_plain this
theorem closed_state {P : Program} {tab : FuncId → Option FnTab} (ht : TabOk P tab) {fn : FuncId} {args : List AVal} (ha : flats args = true) {s : State} {loops k i j : Nat} {f f' : Bool} (hij : i ≠ j) (hc : chkState s i j f f' (runF tab loops k fn args []) = true) {H : Heap} {K : AVal → Heap → Prop}
 (h : K (stV s H.length (H.length + 1) f f') (H ++ [slotsO s, thingsO s])) : ACalls P fn args H K := by
 unfold chkState at hc
 split at hc
 case h_2 => cases hc
 rename_i v H' hr
 simp only [Bool.and_eq_true] at hc
 obtain ⟨h1, h2, h3⟩ := hc
 have h1 := vBeq_eq _ _ h1
 have h2 := objBeq_eq h2
 have h3 := objBeq_eq h3
 subst h1
 refine ACalls.gc (ACalls.lift ha (fun K hK => (runF_sound ht loops k fn args [] _ _ hr).2 K hK) ?_)
 have e1 : (slotsO s).shift H.length = slotsO s := by simp only [slotsO, AObj.shift, shift_rows slots_plain]
 have e2 : (thingsO s).shift H.length = thingsO s := by simp only [thingsO, AObj.shift, shift_rows things_plain]
 have e3 : (stV s i j f f').shift H.length = stV s (H.length + i) (H.length + j) f f' := rfl
 rw [e3]
 exact Gc.state (by rw [List.getElem?_map, h2]; simp [e1]) (by rw [List.getElem?_map, h3]; simp [e2]) hij h
end Go.Ax.M
