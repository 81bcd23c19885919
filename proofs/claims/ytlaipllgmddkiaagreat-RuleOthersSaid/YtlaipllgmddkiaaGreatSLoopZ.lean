/- Loops in walks. Conditions: none. -/
import Derived.Test.YtlaipllgmddkiaaGreatAxLayZ
set_option linter.all false
namespace Go.Ax
open Go
theorem ALoop.keep {P : Program} {n0 : Nat} {c : ACode} {Q : Exit → St → Prop} {n : Nat} {l : List (Nat × AVal)} {H : Heap} (ts : List Nat) (h : ALoop P n0 c Q ⟨mkT n (ts.map fun t => (t, tget l t)), H⟩) : ALoop P n0 c Q ⟨mkT n l, H⟩ :=
 ALoop.to (fun p hp => by
  obtain ⟨t, -, rfl⟩ := List.mem_map.1 hp
  exact .inl rfl) h
theorem ALoop.ind {P : Program} {n0 : Nat} {c : ACode} {Q : Exit → St → Prop} {α : Sort _} (st : Nat → α → St) (Inv : Nat → α → Prop) (N : Nat)
 (step : ∀ k a, k ≤ N → Inv k a → (∀ a', k < N → Inv (k + 1) a' → ALoop P n0 c Q (st (k + 1) a')) → ALoop P n0 c Q (st k a)) : ∀ k a, k ≤ N → Inv k a → ALoop P n0 c Q (st k a) := by
 have : ∀ m k a, N - k = m → k ≤ N → Inv k a → ALoop P n0 c Q (st k a) := by
  intro m
  induction m with
  | zero => exact fun k a e hk hI => step k a hk hI fun a' hlt _ => by omega
  | succ m ih => exact fun k a e hk hI => step k a hk hI fun a' hlt hI' => ih (k + 1) a' (by omega) (by omega) hI'
 exact fun k a => this _ k a rfl
theorem ALoop.cnt {P : Program} {n0 : Nat} {c : ACode} {Q : Exit → St → Prop} {n d : Nat} {l : List (Nat × AVal)} {H : Heap} (Inv : Nat → Prop) (N : Nat) (h0 : Inv 0)
 (step : ∀ k, k ≤ N → Inv k → (k < N → Inv (k + 1) → ALoop P n0 c Q ⟨mkT n ((d, .int .i64 ((k + 1 : Nat) : Int)) :: l), H⟩) → ALoop P n0 c Q ⟨mkT n ((d, .int .i64 (k : Int)) :: l), H⟩) : ALoop P n0 c Q ⟨mkT n ((d, .int .i64 0) :: l), H⟩ :=
 ALoop.ind (α := Unit) (fun k _ => ⟨mkT n ((d, .int .i64 (k : Int)) :: l), H⟩) (fun k _ => Inv k) N (fun k _ hk hI nx => step k hk hI fun a b => nx () a b) 0 () (Nat.zero_le _) h0
theorem ALoop.acc {P : Program} {n0 : Nat} {c : ACode} {Q : Exit → St → Prop} {α : Type} {n : Nat} {l : List (Nat × AVal)} (v : Nat → α → List (Nat × AVal)) (hp : Nat → α → Heap) (Inv : Nat → α → Prop) (N : Nat)
 (step : ∀ k a, k ≤ N → Inv k a → (∀ a', k < N → Inv (k + 1) a' → ALoop P n0 c Q ⟨mkT n (v (k + 1) a' ++ l), hp (k + 1) a'⟩) → ALoop P n0 c Q ⟨mkT n (v k a ++ l), hp k a⟩) {a0 : α} (h0 : Inv 0 a0) : ALoop P n0 c Q ⟨mkT n (v 0 a0 ++ l), hp 0 a0⟩ :=
 ALoop.ind (fun k a => ⟨mkT n (v k a ++ l), hp k a⟩) Inv N step 0 a0 (Nat.zero_le _) h0
def ints (l : List Int) : List (List AVal) := l.map fun x => [.int .i64 x]
@[go_sem] theorem ints_length {l : List Int} : (ints l).length = l.length := by simp [ints]
theorem ints_get {l : List Int} {k : Nat} (h : k < l.length) : (ints l)[k]? = some [.int .i64 (l.getD k 0)] := by
 simp [ints, h, List.getD]
theorem all_take {α : Type} {l : List α} {p : α → Bool} {k : Nat} (hk : k < l.length) : (l.take (k + 1)).all p = ((l.take k).all p && p l[k]) := by
 rw [List.take_succ_eq_append_getElem hk, List.all_append]; simp
theorem all_take_d {α : Type} {l : List α} {p : α → Bool} {k : Nat} {d : α} (hk : k < l.length) : (l.take (k + 1)).all p = ((l.take k).all p && p (l.getD k d)) := by
 rw [all_take hk]; simp [List.getD, hk]
theorem all_false {α : Type} {l : List α} {p : α → Bool} {k : Nat} {d : α} (hk : k < l.length) (h : p (l.getD k d) = false) : l.all p = false := by
 rw [List.all_eq_false]
 refine ⟨l[k], List.getElem_mem hk, ?_⟩
 simp [List.getD, hk] at h; simp [h]
theorem all_range {N k : Nat} {p : Nat → Bool} : (List.range (k + 1)).all p = ((List.range k).all p && p k) := by
 rw [List.range_succ, List.all_append]; simp
theorem all_range_false {N k : Nat} {p : Nat → Bool} (hk : k < N) (h : p k = false) : (List.range N).all p = false := by
 rw [List.all_eq_false]; exact ⟨k, List.mem_range.2 hk, by simp [h]⟩
theorem wrap_succ {k : Nat} (h : k ≤ 1000000) : IntKind.wrap .i64 ((k : Int) + 1) = ((k + 1 : Nat) : Int) := by
 simp [IntKind.wrap, IntKind.bits, IntKind.signed]; omega
theorem nlt_iff {a b : Nat} : ((a : Int) < (b : Int)) = (a < b) := by simp
theorem n0_le {a : Nat} : (0 ≤ (a : Int)) = True := by simp
def Hid (p : Prop) : Prop := p
theorem hide {α : Sort _} (a : α) : ∃ x, Hid (x = a) := ⟨a, rfl⟩
abbrev Keeps (W : Heap) (o : Nat) (x : AObj) : Prop := ∀ L, (W ++ L)[o]? = some x
theorem Keeps.of {W : Heap} {o : Nat} {x : AObj} (h : W[o]? = some x) : Keeps W o x := fun L => old_get h
theorem Keeps.app {W : Heap} {o : Nat} {x : AObj} (h : Keeps W o x) (L : Heap) : Keeps (W ++ L) o x := fun L' => by rw [List.append_assoc]; exact h _
def Ex (H W : Heap) : Prop := ∃ L, W = H ++ L
theorem Ex.mk {H : Heap} (L : Heap) : Ex H (H ++ L) := ⟨L, rfl⟩
theorem Ex.app {H W : Heap} (h : Ex H W) (L : Heap) : Ex H (W ++ L) := by obtain ⟨M, rfl⟩ := h; exact ⟨M ++ L, List.append_assoc _ _ _⟩
theorem Ex.set {H W : Heap} (h : Ex H W) {o : Nat} (ho : H.length ≤ o) (x : AObj) : Ex H (W.set o x) := by obtain ⟨L, rfl⟩ := h; exact ⟨L.set (o - H.length) x, by rw [List.set_append_right _ _ ho]⟩
theorem Ex.trans {H W X : Heap} (h : Ex H W) (g : Ex W X) : Ex H X := by obtain ⟨L, rfl⟩ := g; exact h.app L
theorem Keeps.ex {H W : Heap} {o : Nat} {x : AObj} (h : Keeps H o x) (e : Ex H W) : Keeps W o x := by obtain ⟨L, rfl⟩ := e; exact h.app L
theorem Keeps.at {W : Heap} {o : Nat} {x : AObj} (h : Keeps W o x) : W[o]? = some x := by simpa using h []
theorem Keeps.lt {W : Heap} {o : Nat} {x : AObj} (h : Keeps W o x) : o < W.length := (List.getElem?_eq_some_iff.1 h.at).1
theorem Keeps.set {W : Heap} {o : Nat} {x : AObj} (h : Keeps W o x) (L : Heap) (y : AObj) : (W ++ L).set o y = W.set o y ++ L := List.set_append_left _ _ h.lt
section
variable {W H L : Heap} {a b c d e f : AObj}
theorem Hid.ex (h : Hid (W = H ++ L)) : Ex H W := ⟨L, h⟩
theorem Hid.keep0 (h : Hid (W = H ++ a :: L)) : Keeps W H.length a := by have h : W = _ := h; rw [h]; exact .of at0
theorem Hid.keep1 (h : Hid (W = H ++ a :: b :: L)) : Keeps W (H.length + 1) b := by have h : W = _ := h; rw [h]; exact .of at1
theorem Hid.keep2 (h : Hid (W = H ++ a :: b :: c :: L)) : Keeps W (H.length + 2) c := by have h : W = _ := h; rw [h]; exact .of at2
theorem Hid.keep3 (h : Hid (W = H ++ a :: b :: c :: d :: L)) : Keeps W (H.length + 3) d := by have h : W = _ := h; rw [h]; exact .of at3
end
theorem ALoop.hid {P : Program} {n0 : Nat} {c : ACode} {Q : Exit → St → Prop} {T : List AVal} {H : Heap} (h : ∀ W, Hid (W = H) → ALoop P n0 c Q ⟨T, W⟩) : ALoop P n0 c Q ⟨T, H⟩ := h H rfl
def pick (p : Nat → Bool) (n : Nat) : List Int := ((List.range n).filter p).map Int.ofNat
theorem pick_t {p : Nat → Bool} {k : Nat} (h : p k = true) : pick p (k + 1) = pick p k ++ [(k : Int)] := by simp [pick, List.range_succ, h]
theorem pick_f {p : Nat → Bool} {k : Nat} (h : p k = false) : pick p (k + 1) = pick p k := by simp [pick, List.range_succ, h]
theorem pick_length {p : Nat → Bool} {k : Nat} : (pick p k).length ≤ k := by
 simp only [pick, List.length_map]
 exact Nat.le_trans (List.length_filter_le _ _) (by simp)
theorem ints_append {l r : List Int} : ints (l ++ r) = ints l ++ ints r := by simp [ints]
theorem ints_cons {a : Int} {l : List Int} : ints (a :: l) = [.int .i64 a] :: ints l := rfl
@[go_sem] theorem ints_nil : ints [] = [] := rfl
theorem Sel.one {n i : Nat} {L : Heap} {x : AObj} (h : L[i]? = some x) (hp : ORen (renOf n [i]) x x) : Sel n [i] L [x] := by
 refine ⟨rfl, by simp, fun {a j} hj => ?_⟩
 cases j with
 | zero => simp at hj; subst hj; exact ⟨x, x, h, rfl, hp⟩
 | succ j => simp at hj
theorem Sel.two {n i j : Nat} {L : Heap} {x y : AObj} (h : L[i]? = some x) (h' : L[j]? = some y) (hij : i ≠ j) (hp : ORen (renOf n [i, j]) x x) (hp' : ORen (renOf n [i, j]) y y) : Sel n [i, j] L [x, y] := by
 refine ⟨rfl, by simp [hij], fun {a k} hk => ?_⟩
 match k with
 | 0 => simp at hk; subst hk; exact ⟨x, x, h, rfl, hp⟩
 | 1 => simp at hk; subst hk; exact ⟨y, y, h', rfl, hp'⟩
 | k + 2 => simp at hk
theorem plainsL_refs {p : Nat → Prop} {l : List AVal} (h : ∀ a ∈ l, a.plain = true) : refsL p l := by
 rw [refsL_iff]
 intro a ha
 exact refs_of_plain (h a ha)
theorem ORen.plain {r : Ren} {s : Nat} {xs : List (List AVal)} {ro : Bool} (h : ∀ x ∈ xs, ∀ a ∈ x, a.plain = true) : ORen r (.arr s xs ro) (.arr s xs ro) :=
 ORen.refl fun x hx => plainsL_refs (h x hx)
theorem ints_plain {l : List Int} : ∀ x ∈ ints l, ∀ a ∈ x, a.plain = true := by
 intro x hx a ha
 obtain ⟨n, -, rfl⟩ := List.mem_map.1 hx
 simp at ha; subst ha; rfl
theorem Gc.slice {H L : Heap} {K : AVal → Heap → Prop} {i n s : Nat} {f ro : Bool} {xs : List (List AVal)} (hi : L[i]? = some (.arr s xs ro)) (hp : ∀ x ∈ xs, ∀ a ∈ x, a.plain = true) (h : K (.slice H.length n 0 n f) (H ++ [.arr s xs ro])) :
 Gc H K (.slice (H.length + i) n 0 n f) (H ++ L) :=
 ⟨[i], L, [.arr s xs ro], _, rfl, Sel.one hi (.plain hp), ⟨H.length, rfl, .inr ⟨i, 0, rfl, rfl, rfl⟩⟩, h⟩
theorem Gc.aggSlice {H L : Heap} {K : AVal → Heap → Prop} {i n s : Nat} {f ro : Bool} {xs : List (List AVal)} (hi : L[i]? = some (.arr s xs ro)) (hp : ∀ x ∈ xs, ∀ a ∈ x, a.plain = true) (h : K (.agg [.slice H.length n 0 n f]) (H ++ [.arr s xs ro])) :
 Gc H K (.agg [.slice (H.length + i) n 0 n f]) (H ++ L) :=
 ⟨[i], L, [.arr s xs ro], _, rfl, Sel.one hi (.plain hp), ⟨_, rfl, _, _, rfl, ⟨H.length, rfl, .inr ⟨i, 0, rfl, rfl, rfl⟩⟩, rfl⟩, h⟩
theorem Keeps.other {W : Heap} {o i : Nat} {x : AObj} (h : Keeps W o x) (ne : i ≠ o) (y : AObj) (L : Heap) : (W.set i y ++ L)[o]? = some x := by
 rw [List.getElem?_append_left (by rw [List.length_set]; exact h.lt), List.getElem?_set_ne ne]; exact h.at
theorem Keeps.set2 {W : Heap} {o i : Nat} {x : AObj} (h : Keeps W o x) (L : Heap) (y z : AObj) : (W.set i y ++ L).set o z = (W.set i y).set o z ++ L := List.set_append_left _ _ (by rw [List.length_set]; exact h.lt)
theorem Keeps.self {W : Heap} {o : Nat} {x : AObj} (h : Keeps W o x) (y : AObj) (L : Heap) : (W.set o y ++ L)[o]? = some y := by
 rw [List.getElem?_append_left (by rw [List.length_set]; exact h.lt)]; exact List.getElem?_set_self h.lt
theorem Keeps.self0 {W : Heap} {o : Nat} {x : AObj} (h : Keeps W o x) (y : AObj) : (W.set o y)[o]? = some y := List.getElem?_set_self h.lt
def findI (p : Nat → Bool) (n : Nat) : Int := match (List.range n).find? p with
 | some k => (k : Int)
 | none => -1
theorem findI_hit {p : Nat → Bool} {n k : Nat} (hk : k < n) (h : (List.range k).all (fun j => !p j) = true) (hp : p k = true) : findI p n = (k : Int) := by
 have : (List.range n).find? p = some k := by
  rw [List.find?_range_eq_some]
  exact ⟨hp, by simpa using hk, fun j hj => by have := List.all_eq_true.1 h j (List.mem_range.2 hj); simpa using this⟩
 simp [findI, this]
theorem findI_none {p : Nat → Bool} {n : Nat} (h : (List.range n).all (fun j => !p j) = true) : findI p n = -1 := by
 have : (List.range n).find? p = none := by
  rw [List.find?_eq_none]
  intro x hx; have := List.all_eq_true.1 h x hx; simpa using this
 simp [findI, this]
@[go_sem] theorem at0s {H L : Heap} {m : Nat} {y a : AObj} : (H.set m y ++ a :: L)[H.length]? = some a := by
 have := at0 (H := H.set m y) (a := a) (L := L); rwa [List.length_set] at this
theorem set_same {H : Heap} {m : Nat} {x : AObj} (h : H[m]? = some x) : H.set m x = H := by
 obtain ⟨hl, hh⟩ := List.getElem?_eq_some_iff.1 h; rw [← hh]; simp
theorem Hid.keepS {W H L : Heap} {m : Nat} {y a : AObj} (h : Hid (W = H.set m y ++ a :: L)) : Keeps W H.length a := by
 have h : W = _ := h; rw [h]; exact .of at0s
theorem Hid.keepM {W H L : Heap} {m : Nat} {x y : AObj} (h : Hid (W = H.set m y ++ L)) (hm : H[m]? = some x) : Keeps W m y := by
 have h : W = _ := h; rw [h]; exact .of (Keeps.self (.of hm) _ _)
theorem Hid.keepO {W H L : Heap} {m o : Nat} {x y : AObj} (h : Hid (W = H.set m y ++ L)) (ho : H[o]? = some x) (ne : m ≠ o) : Keeps W o x := by
 have h : W = _ := h; rw [h]; exact .of (Keeps.other (.of ho) ne _ _)
theorem set_app_set {H : Heap} {m : Nat} {x : AObj} (h : H[m]? = some x) (L : Heap) (a b : AObj) : (H.set m a ++ L).set m b = H.set m b ++ L := by
 rw [List.set_append_left _ _ (by rw [List.length_set]; exact (List.getElem?_eq_some_iff.1 h).1), List.set_set]
theorem ALoop.heap {P : Program} {n0 : Nat} {c : ACode} {Q : Exit → St → Prop} {T : List AVal} {H H' : Heap} (e : H = H') (h : ALoop P n0 c Q ⟨T, H'⟩) : ALoop P n0 c Q ⟨T, H⟩ := e ▸ h
end Go.Ax
