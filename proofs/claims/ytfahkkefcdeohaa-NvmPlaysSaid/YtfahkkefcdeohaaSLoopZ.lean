/- Loops in walks. Conditions: none. -/
import Derived.Test.YtfahkkefcdeohaaAxLayZ
set_option linter.unusedSimpArgs false
set_option linter.unusedVariables false
namespace Go.Ax
open Go

theorem ALoop.keep {P : Program} {n0 : Nat} {c : ACode} {Q : Exit → St → Prop} {n : Nat} {l : List (Nat × AVal)} {H : Heap} (ts : List Nat) (h : ALoop P n0 c Q ⟨mkT n (ts.map fun t => (t, tget l t)), H⟩) : ALoop P n0 c Q ⟨mkT n l, H⟩ :=
  ALoop.to (fun p hp => by
    obtain ⟨t, -, rfl⟩ := List.mem_map.1 hp
    exact .inl rfl) h

theorem ALoop.ind {P : Program} {n0 : Nat} {c : ACode} {Q : Exit → St → Prop} {α : Sort _} (st : Nat → α → St) (Inv : Nat → α → Prop) (N : Nat)
    (step : ∀ k a, k ≤ N → Inv k a → (∀ a', k < N → Inv (k + 1) a' → ALoop P n0 c Q (st (k + 1) a')) → ALoop P n0 c Q (st k a)) : ∀ k a, k ≤ N → Inv k a → ALoop P n0 c Q (st k a) := by
  have : ∀ m k a, N - k = m → k ≤ N → Inv k a → ALoop P n0 c Q (st k a) := by
    intro m
    induction m with
    | zero => exact fun k a e hk hI => step k a hk hI fun a' hlt _ => by omega
    | succ m ih => exact fun k a e hk hI => step k a hk hI fun a' hlt hI' => ih (k + 1) a' (by omega) (by omega) hI'
  exact fun k a => this _ k a rfl

theorem ALoop.cnt {P : Program} {n0 : Nat} {c : ACode} {Q : Exit → St → Prop} {n d : Nat} {l : List (Nat × AVal)} {H : Heap} (Inv : Nat → Prop) (N : Nat) (h0 : Inv 0)
    (step : ∀ k, k ≤ N → Inv k → (k < N → Inv (k + 1) → ALoop P n0 c Q ⟨mkT n ((d, .int .i64 ((k + 1 : Nat) : Int)) :: l), H⟩) → ALoop P n0 c Q ⟨mkT n ((d, .int .i64 (k : Int)) :: l), H⟩) : ALoop P n0 c Q ⟨mkT n ((d, .int .i64 0) :: l), H⟩ :=
  ALoop.ind (α := Unit) (fun k _ => ⟨mkT n ((d, .int .i64 (k : Int)) :: l), H⟩) (fun k _ => Inv k) N (fun k _ hk hI nx => step k hk hI fun a b => nx () a b) 0 () (Nat.zero_le _) h0

theorem ALoop.acc {P : Program} {n0 : Nat} {c : ACode} {Q : Exit → St → Prop} {α : Type} {n : Nat} {l : List (Nat × AVal)} (v : Nat → α → List (Nat × AVal)) (hp : Nat → α → Heap) (Inv : Nat → α → Prop) (N : Nat)
    (step : ∀ k a, k ≤ N → Inv k a → (∀ a', k < N → Inv (k + 1) a' → ALoop P n0 c Q ⟨mkT n (v (k + 1) a' ++ l), hp (k + 1) a'⟩) → ALoop P n0 c Q ⟨mkT n (v k a ++ l), hp k a⟩) {a0 : α} (h0 : Inv 0 a0) : ALoop P n0 c Q ⟨mkT n (v 0 a0 ++ l), hp 0 a0⟩ :=
  ALoop.ind (fun k a => ⟨mkT n (v k a ++ l), hp k a⟩) Inv N step 0 a0 (Nat.zero_le _) h0

def ints (l : List Int) : List (List AVal) := l.map fun x => [.int .i64 x]
@[go_sem] theorem ints_length {l : List Int} : (ints l).length = l.length := by simp [ints]
theorem ints_get {l : List Int} {k : Nat} (h : k < l.length) : (ints l)[k]? = some [.int .i64 (l.getD k 0)] := by
  simp [ints, h, List.getD]

theorem wrap_succ {k : Nat} (h : k ≤ 1000000) : IntKind.wrap .i64 ((k : Int) + 1) = ((k + 1 : Nat) : Int) := by
  simp [IntKind.wrap, IntKind.bits, IntKind.signed]; omega
theorem nlt_iff {a b : Nat} : ((a : Int) < (b : Int)) = (a < b) := by simp
theorem n0_le {a : Nat} : (0 ≤ (a : Int)) = True := by simp

def Hid (p : Prop) : Prop := p
abbrev Keeps (W : Heap) (o : Nat) (x : AObj) : Prop := ∀ L, (W ++ L)[o]? = some x
theorem Keeps.of {W : Heap} {o : Nat} {x : AObj} (h : W[o]? = some x) : Keeps W o x := fun L => old_get h
theorem Keeps.app {W : Heap} {o : Nat} {x : AObj} (h : Keeps W o x) (L : Heap) : Keeps (W ++ L) o x := fun L' => by rw [List.append_assoc]; exact h _
def Ex (H W : Heap) : Prop := ∃ L, W = H ++ L
theorem Ex.mk {H : Heap} (L : Heap) : Ex H (H ++ L) := ⟨L, rfl⟩
theorem Ex.app {H W : Heap} (h : Ex H W) (L : Heap) : Ex H (W ++ L) := by obtain ⟨M, rfl⟩ := h; exact ⟨M ++ L, List.append_assoc _ _ _⟩
theorem Ex.set {H W : Heap} (h : Ex H W) {o : Nat} (ho : H.length ≤ o) (x : AObj) : Ex H (W.set o x) := by obtain ⟨L, rfl⟩ := h; exact ⟨L.set (o - H.length) x, by rw [List.set_append_right _ _ ho]⟩
theorem Ex.trans {H W X : Heap} (h : Ex H W) (g : Ex W X) : Ex H X := by obtain ⟨L, rfl⟩ := g; exact h.app L
theorem Keeps.ex {H W : Heap} {o : Nat} {x : AObj} (h : Keeps H o x) (e : Ex H W) : Keeps W o x := by obtain ⟨L, rfl⟩ := e; exact h.app L
theorem Keeps.at {W : Heap} {o : Nat} {x : AObj} (h : Keeps W o x) : W[o]? = some x := by simpa using h []

theorem Keeps.lt {W : Heap} {o : Nat} {x : AObj} (h : Keeps W o x) : o < W.length := (List.getElem?_eq_some_iff.1 h.at).1
theorem Keeps.set {W : Heap} {o : Nat} {x : AObj} (h : Keeps W o x) (L : Heap) (y : AObj) : (W ++ L).set o y = W.set o y ++ L := List.set_append_left _ _ h.lt
section
variable {W H L : Heap} {a b c d e f : AObj}
theorem Hid.ex (h : Hid (W = H ++ L)) : Ex H W := ⟨L, h⟩
theorem Hid.keep0 (h : Hid (W = H ++ a :: L)) : Keeps W H.length a := by have h : W = _ := h; rw [h]; exact .of at0
end
theorem ALoop.hid {P : Program} {n0 : Nat} {c : ACode} {Q : Exit → St → Prop} {T : List AVal} {H : Heap} (h : ∀ W, Hid (W = H) → ALoop P n0 c Q ⟨T, W⟩) : ALoop P n0 c Q ⟨T, H⟩ := h H rfl

def pick (p : Nat → Bool) (n : Nat) : List Int := ((List.range n).filter p).map Int.ofNat
theorem pick_t {p : Nat → Bool} {k : Nat} (h : p k = true) : pick p (k + 1) = pick p k ++ [(k : Int)] := by simp [pick, List.range_succ, h]
theorem pick_f {p : Nat → Bool} {k : Nat} (h : p k = false) : pick p (k + 1) = pick p k := by simp [pick, List.range_succ, h]
theorem pick_length {p : Nat → Bool} {k : Nat} : (pick p k).length ≤ k := by
  simp only [pick, List.length_map]
  exact Nat.le_trans (List.length_filter_le _ _) (by simp)
theorem ints_append {l r : List Int} : ints (l ++ r) = ints l ++ ints r := by simp [ints]
@[go_sem] theorem ints_nil : ints [] = [] := rfl

theorem Sel.one {n i : Nat} {L : Heap} {x : AObj} (h : L[i]? = some x) (hp : ORen (renOf n [i]) x x) : Sel n [i] L [x] := by
  refine ⟨rfl, by simp, fun {a j} hj => ?_⟩
  cases j with
  | zero => simp at hj; subst hj; exact ⟨x, x, h, rfl, hp⟩
  | succ j => simp at hj

theorem Sel.two {n i j : Nat} {L : Heap} {x y : AObj} (h : L[i]? = some x) (h' : L[j]? = some y) (hij : i ≠ j) (hp : ORen (renOf n [i, j]) x x) (hp' : ORen (renOf n [i, j]) y y) : Sel n [i, j] L [x, y] := by
  refine ⟨rfl, by simp [hij], fun {a k} hk => ?_⟩
  match k with
  | 0 => simp at hk; subst hk; exact ⟨x, x, h, rfl, hp⟩
  | 1 => simp at hk; subst hk; exact ⟨y, y, h', rfl, hp'⟩
  | k + 2 => simp at hk

theorem plainsL_refs {p : Nat → Prop} {l : List AVal} (h : ∀ a ∈ l, a.plain = true) : refsL p l := by
  rw [refsL_iff]
  intro a ha
  exact refs_of_plain (h a ha)

theorem ORen.plain {r : Ren} {s : Nat} {xs : List (List AVal)} {ro : Bool} (h : ∀ x ∈ xs, ∀ a ∈ x, a.plain = true) : ORen r (.arr s xs ro) (.arr s xs ro) :=
  ORen.refl fun x hx => plainsL_refs (h x hx)

theorem ints_plain {l : List Int} : ∀ x ∈ ints l, ∀ a ∈ x, a.plain = true := by
  intro x hx a ha
  obtain ⟨n, -, rfl⟩ := List.mem_map.1 hx
  simp at ha; subst ha; rfl

theorem Gc.slice {H L : Heap} {K : AVal → Heap → Prop} {i n s : Nat} {f ro : Bool} {xs : List (List AVal)} (hi : L[i]? = some (.arr s xs ro)) (hp : ∀ x ∈ xs, ∀ a ∈ x, a.plain = true) (h : K (.slice H.length n 0 n f) (H ++ [.arr s xs ro])) :
    Gc H K (.slice (H.length + i) n 0 n f) (H ++ L) :=
  ⟨[i], L, [.arr s xs ro], _, rfl, Sel.one hi (.plain hp), ⟨H.length, rfl, .inr ⟨i, 0, rfl, rfl, rfl⟩⟩, h⟩

theorem Keeps.other {W : Heap} {o i : Nat} {x : AObj} (h : Keeps W o x) (ne : i ≠ o) (y : AObj) (L : Heap) : (W.set i y ++ L)[o]? = some x := by
  rw [List.getElem?_append_left (by rw [List.length_set]; exact h.lt), List.getElem?_set_ne ne]; exact h.at
theorem Keeps.set2 {W : Heap} {o i : Nat} {x : AObj} (h : Keeps W o x) (L : Heap) (y z : AObj) : (W.set i y ++ L).set o z = (W.set i y).set o z ++ L := List.set_append_left _ _ (by rw [List.length_set]; exact h.lt)

theorem Keeps.self {W : Heap} {o : Nat} {x : AObj} (h : Keeps W o x) (y : AObj) (L : Heap) : (W.set o y ++ L)[o]? = some y := by
  rw [List.getElem?_append_left (by rw [List.length_set]; exact h.lt)]; exact List.getElem?_set_self h.lt
theorem Keeps.self0 {W : Heap} {o : Nat} {x : AObj} (h : Keeps W o x) (y : AObj) : (W.set o y)[o]? = some y := List.getElem?_set_self h.lt

@[go_sem] theorem at0s {H L : Heap} {m : Nat} {y a : AObj} : (H.set m y ++ a :: L)[H.length]? = some a := by
  have := at0 (H := H.set m y) (a := a) (L := L); rwa [List.length_set] at this
theorem set_same {H : Heap} {m : Nat} {x : AObj} (h : H[m]? = some x) : H.set m x = H := by
  obtain ⟨hl, hh⟩ := List.getElem?_eq_some_iff.1 h; rw [← hh]; simp
theorem set_app_set {H : Heap} {m : Nat} {x : AObj} (h : H[m]? = some x) (L : Heap) (a b : AObj) : (H.set m a ++ L).set m b = H.set m b ++ L := by
  rw [List.set_append_left _ _ (by rw [List.length_set]; exact (List.getElem?_eq_some_iff.1 h).1), List.set_set]

theorem ALoop.heap {P : Program} {n0 : Nat} {c : ACode} {Q : Exit → St → Prop} {T : List AVal} {H H' : Heap} (e : H = H') (h : ALoop P n0 c Q ⟨T, H'⟩) : ALoop P n0 c Q ⟨T, H⟩ := e ▸ h

end Go.Ax
