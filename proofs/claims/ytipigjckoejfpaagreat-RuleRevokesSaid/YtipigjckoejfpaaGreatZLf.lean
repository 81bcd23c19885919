/- Texts put behind one another: SDepth, STag, SCapW, SLeafT. Conditions: none. -/
import Derived.Test.YtipigjckoejfpaaGreatZGv
import Derived.Test.YtipigjckoejfpaaGreatSBaseZ
import Derived.Test.YtipigjckoejfpaaGreatSLoopZ
import Derived.Test.YtipigjckoejfpaaGreatZPu
set_option linter.unusedSimpArgs false
set_option linter.unusedVariables false
/- How deep: what the program's function answers. Conditions: none. -/
namespace Go.Ax.M
open Go Go.Ax
theorem ends_up : ∀ (n m : Nat) (up : List Int) (a : Int), n ≤ m → fEnds up n a = true → fEnds up m a = true := by
  intro n
  induction n with
  | zero =>
    intro m up a _ h
    cases m with
    | zero => exact h
    | succ m => simp only [fEnds] at h ⊢; rw [h]; rfl
  | succ n ih =>
    intro m up a hm h
    cases m with
    | zero => omega
    | succ m =>
      simp only [fEnds, Bool.or_eq_true] at h ⊢
      exact h.imp id (ih m _ _ (by omega))
structure Climb (up : List Int) (D k : Nat) (a : Int) : Prop where
  at_ : a = -1 ∨ fIs up a = true
  le : k ≤ up.length + 1
  ends : fEnds up (up.length + 1 - k) a = true
  num : fDepth.stepsD up (up.length + 1 - k) a + k = D
theorem up_is {up : List Int} (h : fGood up = true) {a : Int} (ha : fIs up a = true) : up.getD a.toNat 0 = -1 ∨ fIs up (up.getD a.toNat 0) = true := by
  simp only [fGood, Bool.and_eq_true] at h
  simp only [fIs, Bool.and_eq_true, decide_eq_true_eq, Bool.not_eq_true', decide_eq_false_iff_not] at ha
  have hm : up.getD a.toNat 0 ∈ up := by
    have : a.toNat < up.length := by omega
    simp [List.getD, this]
  have := List.all_eq_true.1 h.2.1 _ hm
  simp only [fUp, Bool.or_eq_true, decide_eq_true_eq] at this
  rcases this with h | h | h
  · exact absurd h ha.2.2
  · exact .inl h
  · exact .inr h
theorem Climb.start {up : List Int} {i : Int} (h : fMay up i = true) : Climb up (fDepth.stepsD up (up.length + 1) (up.getD i.toNat 0)) 0 (up.getD i.toNat 0) := by
  simp only [fMay, Bool.and_eq_true] at h
  refine ⟨up_is h.1 h.2, by omega, ?_, rfl⟩
  have h1 := h.1
  simp only [fGood, Bool.and_eq_true] at h1
  have h2 := h.2
  simp only [fIs, Bool.and_eq_true, decide_eq_true_eq] at h2
  have := List.all_eq_true.1 h1.2.2 i.toNat (List.mem_range.2 (by omega))
  rw [show ((i.toNat : Nat) : Int) = i by omega] at this
  simp only [fEnds, h.2, Bool.not_true, Bool.false_or] at this
  exact ends_up _ _ _ _ (by omega) this
theorem Climb.next {up : List Int} {D k : Nat} {a : Int} (hg : fGood up = true) (h : Climb up D k a) (ha : a ≠ -1) : fIs up a = true ∧ k < up.length + 1 ∧ Climb up D (k + 1) (up.getD a.toNat 0) := by
  have hi := h.at_.resolve_left ha
  have he := h.ends
  have hn := h.num
  have hle := h.le
  cases e : up.length + 1 - k with
  | zero => rw [e] at he; simp [fEnds, hi] at he
  | succ m =>
    rw [e] at he hn
    have em : up.length + 1 - (k + 1) = m := by omega
    simp only [fEnds, hi, Bool.not_true, Bool.false_or] at he
    simp only [fDepth.stepsD, if_neg ha] at hn
    exact ⟨hi, by omega, up_is hg hi, by omega, by rw [em]; exact he, by rw [em]; omega⟩
theorem Climb.last {up : List Int} {D k : Nat} (h : Climb up D k (-1)) : k = D := by
  have hn := h.num
  cases e : up.length + 1 - k with
  | zero => rw [e] at hn; simp [fDepth.stepsD] at hn; exact hn
  | succ m => rw [e] at hn; simp [fDepth.stepsD] at hn; exact hn
theorem is_get {up : List Int} {a : Int} (h : fIs up a = true) : (0 ≤ a) = True ∧ (a < (up.length : Int)) = True ∧ (ints up)[a.toNat]? = some [.int .i64 (up.getD a.toNat 0)] := by
  simp [fIs] at h; exact ⟨by simp [h], by simp [h], ints_get (by omega)⟩
end Go.Ax.M
namespace Go.Proofs.YtipigjckoejfpaaGreat.Ax
open Go Go.Ax Go.Ax.M
section
variable {H : Heap} {K : AVal → Heap → Prop} {up : List Int} {o : Nat} {fl ro : Bool}
theorem forest_Depth_spec {i : Int} (ho : H[o]? = some (.arr 1 (ints up) ro)) (hlen : up.length ≤ 1000) (h : K (.int .i64 (fDepth up i)) H) : ACalls Tryz.prog 137 [.agg [.slice o up.length 0 up.length fl], .int .i64 i] H K := by
  have k1 := Keeps.of ho
  have hm : fMay up i = true → _ := fun h => is_get (a := i) (by simp only [fMay, Bool.and_eq_true] at h; exact h.2)
  refine ACalls.tidy ?_
  cases hmay : fMay up i with
  | false =>
    clear hm
    refine ACalls.into ok137 (Nat.le_of_ble_eq_true rfl) ?_; (try simp only [c137, wpx_of k137_0.eq_1, wpx_of k137_1.eq_1, wpx_of k137_2.eq_1, wpx_of k137_4.eq_1, wpx_of k137_5.eq_1, k1, hmay, go_sem]); repeat' ((first
    | refine And.intro (Or.inr rfl) ?_
    | ((first | refine cB ?_ ?_ | refine gT ?_ ?_ | refine gF ?_ ?_ | refine dT ?_ ?_ | refine dF ?_ ?_) <;> intro hc)
    | refine forest_may_spec (k1 _) ?_) <;> try simp only [*, wpx_of k137_0.eq_1, wpx_of k137_1.eq_1, wpx_of k137_2.eq_1, wpx_of k137_4.eq_1, wpx_of k137_5.eq_1, k1, hmay, go_sem])
    exact ⟨rfl, ⟨_, rfl⟩, ki h (by simp only [fDepth, hmay, cond_false])⟩
  | true =>
    have hm := hm hmay
    refine ACalls.into ok137 (Nat.le_of_ble_eq_true rfl) ?_; (try simp only [c137, wpx_of k137_0.eq_1, wpx_of k137_1.eq_1, wpx_of k137_2.eq_1, wpx_of k137_4.eq_1, wpx_of k137_5.eq_1, k1, hm, hmay, go_sem]); repeat' ((first
    | refine And.intro (Or.inr rfl) ?_
    | ((first | refine cB ?_ ?_ | refine gT ?_ ?_ | refine gF ?_ ?_ | refine dT ?_ ?_ | refine dF ?_ ?_) <;> intro hc)
    | refine forest_may_spec (k1 _) ?_) <;> try simp only [*, wpx_of k137_0.eq_1, wpx_of k137_1.eq_1, wpx_of k137_2.eq_1, wpx_of k137_4.eq_1, wpx_of k137_5.eq_1, k1, hm, hmay, go_sem])
    have hg : fGood up = true := by simp only [fMay, Bool.and_eq_true] at hmay; exact hmay.1
    have hD : fDepth up i = (fDepth.stepsD up (up.length + 1) (up.getD i.toNat 0) : Int) := by simp only [fDepth, hmay, cond_true]
    rw [hD] at h
    have hst := Climb.start hmay
    generalize fDepth.stepsD up (up.length + 1) (up.getD i.toNat 0) = D at h hst
    clear hm
    refine ALoop.keep [6, 5, 2] ?_; simp only [List.map_cons, List.map_nil, go_sem]
    refine ALoop.acc (fun k a => [(6, .int .i64 a), (5, .int .i64 (k : Int))]) (fun _ _ => _) (fun k a => Climb up D k a) (up.length + 1) ?_ (a0 := up.getD i.toNat 0) hst
    intro k a hk hI next
    refine ALoop.unfold ?_
    have hw := wrap_succ (k := k) (by omega)
    by_cases ha : a = -1
    · subst ha
      have e := hI.last
      subst e
      (try simp only [wpx_of k137_0.eq_1, wpx_of k137_1.eq_1, wpx_of k137_2.eq_1, wpx_of k137_4.eq_1, wpx_of k137_5.eq_1, k1, hw, wpx_of b137_3.eq_1, List.cons_append, List.nil_append, go_sem]); repeat' ((first
    | refine And.intro (Or.inr rfl) ?_
    | ((first | refine cB ?_ ?_ | refine gT ?_ ?_ | refine gF ?_ ?_ | refine dT ?_ ?_ | refine dF ?_ ?_) <;> intro hc)) <;> try simp only [*, wpx_of k137_0.eq_1, wpx_of k137_1.eq_1, wpx_of k137_2.eq_1, wpx_of k137_4.eq_1, wpx_of k137_5.eq_1, k1, hw, wpx_of b137_3.eq_1, List.cons_append, List.nil_append, go_sem])
      exact ⟨rfl, ⟨_, rfl⟩, h⟩
    · obtain ⟨h1, h2, h3⟩ := hI.next hg ha
      have hga := is_get h1
      (try simp only [wpx_of k137_0.eq_1, wpx_of k137_1.eq_1, wpx_of k137_2.eq_1, wpx_of k137_4.eq_1, wpx_of k137_5.eq_1, k1, hw, ha, hga, wpx_of b137_3.eq_1, List.cons_append, List.nil_append, go_sem]); repeat' ((first
    | refine And.intro (Or.inr rfl) ?_
    | ((first | refine cB ?_ ?_ | refine gT ?_ ?_ | refine gF ?_ ?_ | refine dT ?_ ?_ | refine dF ?_ ?_) <;> intro hc)) <;> try simp only [*, wpx_of k137_0.eq_1, wpx_of k137_1.eq_1, wpx_of k137_2.eq_1, wpx_of k137_4.eq_1, wpx_of k137_5.eq_1, k1, hw, ha, hga, wpx_of b137_3.eq_1, List.cons_append, List.nil_append, go_sem])
      (refine ALoop.keep [6, 5, 2] ?_; simp only [List.map_cons, List.map_nil, go_sem]; refine next _ h2 h3)
end
end Go.Proofs.YtipigjckoejfpaaGreat.Ax

/- Marks in words: what the program's functions answer. Conditions: none. -/
namespace Go.Ax.M
open Go Go.Ax
def fieldC (x : Nat × Nat) : List AVal := [.int .i64 (x.1 : Int), .int .i64 (x.2 : Int)]
def fieldsC (F : List (Nat × Nat)) : List (List AVal) := F.map fieldC
def maskN (x : Nat × Nat) : Nat := (2 ^ x.2 - 1) * 2 ^ x.1
def endN (F : List (Nat × Nat)) : Nat → Nat
  | 0 => 0
  | k + 1 => (F.getD k (0, 0)).1 + (F.getD k (0, 0)).2
structure FOk (F : List (Nat × Nat)) : Prop where
  len : F.length ≤ 64
  ok : ∀ k, k < F.length → endN F k ≤ (F.getD k (0, 0)).1 ∧ 1 ≤ (F.getD k (0, 0)).2 ∧ (F.getD k (0, 0)).1 + (F.getD k (0, 0)).2 ≤ 63
def allN (F : List (Nat × Nat)) : Nat → Nat
  | 0 => 0
  | k + 1 => allN F k + maskN (F.getD k (0, 0))
def putN (F : List (Nat × Nat)) (v : List Int) : Nat → Int
  | 0 => 0
  | k + 1 => putN F v k + v.getD k 0 * 2 ^ (F.getD k (0, 0)).1
def getN (w : Int) (F : List (Nat × Nat)) : List Int := F.map fun x => w / 2 ^ x.1 % 2 ^ x.2
def wordsC (l : List Int) : List (List AVal) := l.map fun x => [.int .u64 x]
theorem wordsC_get {l : List Int} {k : Nat} (h : k < l.length) : (wordsC l)[k]? = some [.int .u64 (l.getD k 0)] := by simp [wordsC, h, List.getD]
@[go_sem] theorem wordsC_length {l : List Int} : (wordsC l).length = l.length := by simp [wordsC]
@[go_sem] theorem fieldsC_length {l : List (Nat × Nat)} : (fieldsC l).length = l.length := by simp [fieldsC]
theorem fieldsC_get {F : List (Nat × Nat)} {k : Nat} (h : k < F.length) : (fieldsC F)[k]? = some [.int .i64 ((F.getD k (0, 0)).1 : Int), .int .i64 ((F.getD k (0, 0)).2 : Int)] := by simp [fieldsC, fieldC, h, List.getD]
theorem pow_pos2 {k : Nat} : 0 < (2 : Nat) ^ k := Nat.pow_pos (by omega)
theorem pow_mono {a b : Nat} (h : a ≤ b) : (2 : Nat) ^ a ≤ 2 ^ b := Nat.pow_le_pow_right (by omega) h
theorem mask_lt {x : Nat × Nat} : maskN x + 2 ^ x.1 = 2 ^ (x.1 + x.2) := by
  have := pow_pos2 (k := x.2)
  rw [maskN, Nat.pow_add, Nat.mul_comm (2 ^ x.1)]
  have e : 2 ^ x.2 = (2 ^ x.2 - 1) + 1 := by omega
  conv => rhs; rw [e, Nat.add_mul, Nat.one_mul]
theorem all_lt {F : List (Nat × Nat)} (h : FOk F) : ∀ k, k ≤ F.length → allN F k < 2 ^ endN F k
  | 0, _ => by simp [allN, endN]
  | k + 1, hk => by
    have := all_lt h k (by omega)
    have h2 := h.ok k (by omega)
    have h3 := mask_lt (x := F.getD k (0, 0))
    have h4 := pow_mono h2.1
    simp only [allN, endN]
    rw [← h3, Nat.add_comm]
    exact Nat.add_lt_add_left (Nat.lt_of_lt_of_le this h4) _
theorem put_lt {F : List (Nat × Nat)} {v : List Int} (h : FOk F) (hv : ∀ k, k < F.length → 0 ≤ v.getD k 0 ∧ v.getD k 0 < 2 ^ (F.getD k (0, 0)).2) : ∀ k, k ≤ F.length → 0 ≤ putN F v k ∧ putN F v k < 2 ^ endN F k
  | 0, _ => by simp [putN, endN]
  | k + 1, hk => by
    have := put_lt h hv k (by omega)
    have h2 := h.ok k (by omega)
    have h3 := hv k (by omega)
    have h4 : (2 : Int) ^ endN F k ≤ 2 ^ (F.getD k (0, 0)).1 := by exact_mod_cast pow_mono h2.1
    have h5 : (0 : Int) < 2 ^ (F.getD k (0, 0)).1 := Int.pow_pos (by omega)
    simp only [putN, endN]
    have h6 : v.getD k 0 * 2 ^ (F.getD k (0, 0)).1 ≤ (2 ^ (F.getD k (0, 0)).2 - 1) * 2 ^ (F.getD k (0, 0)).1 := Int.mul_le_mul_of_nonneg_right (by omega) (by omega)
    have h7 : 0 ≤ v.getD k 0 * 2 ^ (F.getD k (0, 0)).1 := Int.mul_nonneg h3.1 (by omega)
    have h8 : (2 : Int) ^ (F.getD k (0, 0)).1 + (2 ^ (F.getD k (0, 0)).2 - 1) * 2 ^ (F.getD k (0, 0)).1 = 2 ^ ((F.getD k (0, 0)).1 + (F.getD k (0, 0)).2) := by
      rw [Int.pow_add, Int.sub_mul, Int.one_mul, Int.add_comm, Int.sub_add_cancel, Int.mul_comm]
    exact ⟨Int.add_nonneg this.1 h7, by rw [← h8]; exact Int.add_lt_add_of_lt_of_le (Int.lt_of_lt_of_le this.2 h4) h6⟩
end Go.Ax.M
namespace Go.Ax.M
open Go Go.Ax
theorem shl_u {a : Int} {b : Nat} (h0 : 0 ≤ a) (hb : b ≤ 64) (h : a * 2 ^ b < 2 ^ 64) : aShift .shl .u64 a (b : Int) = some (.int .u64 (a * 2 ^ b)) := by
  have hp : (0 : Int) < 2 ^ b := Int.pow_pos (by omega)
  have h1 : 0 ≤ a * 2 ^ b := Int.mul_nonneg h0 (by omega)
  have e : min ((b : Int).toNat) (IntKind.bits .u64) = b := by simp [IntKind.bits]; omega
  unfold aShift
  rw [if_neg (by omega)]
  simp only [e]
  rw [wrap_u h1 h]
theorem shr_nat {a : Int} {b : Nat} (hb : b ≤ 64) : aShift .shr .u64 a (b : Int) = some (.int .u64 (a / 2 ^ b)) := by
  have e : min ((b : Int).toNat) (IntKind.bits .u64) = b := by simp [IntKind.bits]; omega
  unfold aShift
  rw [if_neg (by omega)]
  simp only [e]
  rw [Int.fdiv_eq_ediv_of_nonneg _ (Int.le_of_lt (Int.pow_pos (by omega)))]
theorem pow_int {k : Nat} : ((2 ^ k : Nat) : Int) = 2 ^ k := by simp
theorem mask_div {f n : Nat} : ((maskN (f, n) : Nat) : Int) / 2 ^ f = 2 ^ n - 1 := by
  have hp : 0 < (2 : Nat) ^ n := pow_pos2
  have hf : 0 < (2 : Nat) ^ f := pow_pos2
  have e : maskN (f, n) / 2 ^ f = 2 ^ n - 1 := by rw [maskN, Nat.mul_div_cancel _ hf]
  have := congrArg (fun a : Nat => (a : Int)) e
  simp only [Int.natCast_ediv, pow_int] at this
  rw [this, Int.ofNat_sub hp]; simp
theorem and_zero {a m f : Nat} (h : a < 2 ^ f) : a &&& m * 2 ^ f = 0 := by
  apply Nat.eq_of_testBit_eq
  intro i
  rw [Nat.mul_comm, Nat.testBit_and, Nat.testBit_two_pow_mul, Nat.zero_testBit]
  by_cases hi : i < f
  · simp; omega
  · rw [Nat.testBit_lt_two_pow (Nat.lt_of_lt_of_le h (pow_mono (by omega)))]; simp
theorem or_sum {a m f : Nat} (h : a < 2 ^ f) : a ||| m * 2 ^ f = a + m * 2 ^ f := by
  rw [Nat.or_comm, Nat.mul_comm, ← Nat.two_pow_add_eq_or_of_lt h, Nat.add_comm]
structure AtF (F : List (Nat × Nat)) (k f n : Nat) : Prop where
  get : F.getD k (0, 0) = (f, n)
  n1 : 1 ≤ n
  fn : f + n ≤ 63
  lt : allN F k < 2 ^ f
  en : endN F k ≤ f
theorem FOk.at {F : List (Nat × Nat)} (h : FOk F) {k : Nat} (hk : k < F.length) : ∃ f n, AtF F k f n := by
  obtain ⟨h1, h2, h3⟩ := h.ok k hk
  have := all_lt h k (by omega)
  have h4 := pow_mono h1
  exact ⟨_, _, rfl, h2, h3, Nat.lt_of_lt_of_le this h4, h1⟩
theorem AtF.mlt {F : List (Nat × Nat)} {k f n : Nat} (h : AtF F k f n) : maskN (f, n) < 2 ^ 63 := by
  have h1 := mask_lt (x := (f, n))
  have h2 := pow_mono h.fn
  have h3 := pow_pos2 (k := f)
  simp only at h1
  exact Nat.lt_of_lt_of_le (by rw [← h1]; exact Nat.lt_add_of_pos_right h3) h2
theorem AtF.alt {F : List (Nat × Nat)} {k f n : Nat} (h : AtF F k f n) : allN F k < 2 ^ 63 := by
  have h1 := h.lt
  have h2 := h.fn
  exact Nat.lt_of_lt_of_le h1 (pow_mono (by omega))
end Go.Ax.M
namespace Go.Proofs.YtipigjckoejfpaaGreat.Ax
open Go Go.Ax Go.Ax.M
section
variable {H : Heap} {K : AVal → Heap → Prop} {F : List (Nat × Nat)} {o p : Nat} {fl fp ro rp : Bool}

theorem mask_spec {f n : Nat} (h1 : 1 ≤ n) (h : f + n ≤ 63) (hK : K (.int .u64 (maskN (f, n) : Int)) H) : ACalls Tryz.prog 216 [.agg [.int .i64 (f : Int), .int .i64 (n : Int)]] H K := by
  have p1 := pow_mono (show n ≤ 63 by omega)
  have p0 := pow_pos2 (k := n)
  have m1 := mask_lt (x := (f, n))
  have m2 := pow_mono h
  have p3 := pow_pos2 (k := f)
  simp only at m1
  have e1 : aShift .shl .u64 1 (n : Int) = some (.int .u64 ((2 ^ n : Nat) : Int)) := by
    rw [shl_u (by omega) (by omega) (by rw [← pow_int]; omega), Int.one_mul, pow_int]
  have e2 : IntKind.wrap .u64 (((2 ^ n : Nat) : Int) - 1) = ((2 ^ n - 1 : Nat) : Int) := by
    rw [wrap_u (by omega) (by omega)]; omega
  have e3 : aShift .shl .u64 ((2 ^ n - 1 : Nat) : Int) (f : Int) = some (.int .u64 (maskN (f, n) : Int)) := by
    have e : ((2 ^ n - 1 : Nat) : Int) * 2 ^ f = (maskN (f, n) : Int) := by rw [← pow_int]; simp only [maskN, Int.natCast_mul]
    rw [shl_u (by omega) (by omega) (by rw [e]; omega), e]
  refine ACalls.tidy ?_
  refine ACalls.into ok216 (Nat.le_of_ble_eq_true rfl) ?_; (try simp only [c216, wpx_of k216_0.eq_1, e1, e2, e3, go_sem]); repeat' ((first
    | refine And.intro (Or.inr rfl) ?_
    | ((first | refine cB ?_ ?_ | refine gT ?_ ?_ | refine gF ?_ ?_ | refine dT ?_ ?_ | refine dF ?_ ?_) <;> intro hc)) <;> try simp only [*, wpx_of k216_0.eq_1, e1, e2, e3, go_sem])
  exact ⟨rfl, ⟨_, rfl⟩, hK⟩

theorem tag_all_spec (hF : FOk F) (ho : H[o]? = some (.arr 2 (fieldsC F) ro)) (hK : K (.tup [.int .u64 (allN F F.length : Int), .bool true]) H) : ACalls Tryz.prog 219 [.slice o F.length 0 F.length fl] H K := by
  have k1 := Keeps.of ho
  have hlen := hF.len
  refine ACalls.tidy ?_
  refine ACalls.into ok219 (Nat.le_of_ble_eq_true rfl) ?_; (try simp only [c219, wpx_of k219_0.eq_1, wpx_of k219_1.eq_1, wpx_of k219_2.eq_1, wpx_of k219_3.eq_1, wpx_of k219_5.eq_1, wpx_of k219_6.eq_1, k1, go_sem]); repeat' ((first
    | refine And.intro (Or.inr rfl) ?_
    | ((first | refine cB ?_ ?_ | refine gT ?_ ?_ | refine gF ?_ ?_ | refine dT ?_ ?_ | refine dF ?_ ?_) <;> intro hc)) <;> try simp only [*, wpx_of k219_0.eq_1, wpx_of k219_1.eq_1, wpx_of k219_2.eq_1, wpx_of k219_3.eq_1, wpx_of k219_5.eq_1, wpx_of k219_6.eq_1, k1, go_sem])
  refine ALoop.keep [4, 9, 7, 8] ?_; simp only [List.map_cons, List.map_nil, go_sem]
  refine ALoop.heap (List.append_nil H).symm ?_
  refine ALoop.acc (fun k G => [(4, .int .u64 (allN F k : Int)), (9, .int .i64 (k : Int))]) (fun k G => H ++ G) (fun k G => True) F.length ?_ (a0 := []) trivial
  intro k G hk _ next
  refine ALoop.hid fun W hW => ?_
  have k1 := k1.ex hW.ex
  have k10 := k1.at
  refine ALoop.unfold ?_
  have hw := wrap_succ (k := k) (by omega)
  by_cases hkF : k < F.length
  · obtain ⟨f, n, af⟩ := hF.at hkF
    have hg := fieldsC_get hkF
    rw [af.get] at hg
    simp only at hg
    have hs : allN F (k + 1) = allN F k + maskN (f, n) := by rw [allN, af.get]
    have fn := af.fn
    have n1 := af.n1
    have a1 : ((f : Int) < 0) = False := eq_false (by omega)
    have a2 : ((64 : Int) ≤ (f : Int)) = False := eq_false (by omega)
    have a3 : ((n : Int) < 1) = False := eq_false (by omega)
    have a4 : IntKind.wrap .i64 (64 - (f : Int)) = 64 - (f : Int) := w64 (by omega) (by omega)
    have a5 : ((64 - (f : Int)) < (n : Int)) = False := eq_false (by omega)
    have a6 : IntKind.wrap .u64 ((BitVec.ofInt (IntKind.bits .u64) (allN F k : Int) &&& BitVec.ofInt (IntKind.bits .u64) (maskN (f, n) : Int)).toNat : Int) = 0 := by
      have := and_nat (a := allN F k) (b := maskN (f, n)) (by have := af.alt; omega) (by have := af.mlt; omega)
      rw [show maskN (f, n) = (2 ^ n - 1) * 2 ^ f from rfl, and_zero af.lt] at this
      exact this
    have a7 : IntKind.wrap .u64 ((BitVec.ofInt (IntKind.bits .u64) (allN F k : Int) ||| BitVec.ofInt (IntKind.bits .u64) (maskN (f, n) : Int)).toNat : Int) = (allN F (k + 1) : Int) := by
      have := or_nat (a := allN F k) (b := maskN (f, n)) (by have := af.alt; omega) (by have := af.mlt; omega)
      rw [show maskN (f, n) = (2 ^ n - 1) * 2 ^ f from rfl, or_sum af.lt] at this
      rw [hs]; exact this
    clear hs
    simp only [go_sem] at a6 a7
    (try simp only [wpx_of k219_0.eq_1, wpx_of k219_1.eq_1, wpx_of k219_2.eq_1, wpx_of k219_3.eq_1, wpx_of k219_5.eq_1, wpx_of k219_6.eq_1, k1, k10, hw, hg, hkF, a1, a2, a3, a4, a5, a6, a7, wpx_of b219_4.eq_1, nlt_iff, n0_le, List.cons_append, List.nil_append, go_sem]); repeat' ((first
    | refine And.intro (Or.inr rfl) ?_
    | ((first | refine cB ?_ ?_ | refine gT ?_ ?_ | refine gF ?_ ?_ | refine dT ?_ ?_ | refine dF ?_ ?_) <;> intro hc)
    | refine mask_spec n1 fn ?_) <;> try simp only [*, wpx_of k219_0.eq_1, wpx_of k219_1.eq_1, wpx_of k219_2.eq_1, wpx_of k219_3.eq_1, wpx_of k219_5.eq_1, wpx_of k219_6.eq_1, k1, k10, hw, hg, hkF, a1, a2, a3, a4, a5, a6, a7, wpx_of b219_4.eq_1, nlt_iff, n0_le, List.cons_append, List.nil_append, go_sem])
    have hW : W = _ := hW
    subst hW
    simp only [List.append_assoc]
    (refine ALoop.keep [4, 9, 7, 8] ?_; simp only [List.map_cons, List.map_nil, go_sem]; refine next _ hkF trivial)
  · have : k = F.length := by omega
    subst this
    (try simp only [wpx_of k219_0.eq_1, wpx_of k219_1.eq_1, wpx_of k219_2.eq_1, wpx_of k219_3.eq_1, wpx_of k219_5.eq_1, wpx_of k219_6.eq_1, k1, k10, hw, hkF, wpx_of b219_4.eq_1, nlt_iff, n0_le, List.cons_append, List.nil_append, go_sem]); repeat' ((first
    | refine And.intro (Or.inr rfl) ?_
    | ((first | refine cB ?_ ?_ | refine gT ?_ ?_ | refine gF ?_ ?_ | refine dT ?_ ?_ | refine dF ?_ ?_) <;> intro hc)) <;> try simp only [*, wpx_of k219_0.eq_1, wpx_of k219_1.eq_1, wpx_of k219_2.eq_1, wpx_of k219_3.eq_1, wpx_of k219_5.eq_1, wpx_of k219_6.eq_1, k1, k10, hw, hkF, wpx_of b219_4.eq_1, nlt_iff, n0_le, List.cons_append, List.nil_append, go_sem])
    have hW : W = _ := hW
    subst hW
    exact ⟨rfl, ⟨_, rfl⟩, hK⟩

theorem tag_Good_spec (hF : FOk F) (ho : H[o]? = some (.arr 2 (fieldsC F) ro)) (hK : K (.bool true) H) : ACalls Tryz.prog 215 [.slice o F.length 0 F.length fl] H K := by
  have k1 := Keeps.of ho
  refine ACalls.tidy ?_
  refine ACalls.into ok215 (Nat.le_of_ble_eq_true rfl) ?_; (try simp only [c215, wpx_of k215_0.eq_1, k1, go_sem]); repeat' ((first
    | refine And.intro (Or.inr rfl) ?_
    | ((first | refine cB ?_ ?_ | refine gT ?_ ?_ | refine gF ?_ ?_ | refine dT ?_ ?_ | refine dF ?_ ?_) <;> intro hc)
    | refine tag_all_spec hF ho ?_) <;> try simp only [*, wpx_of k215_0.eq_1, k1, go_sem])
  exact ⟨rfl, [], (List.append_nil _).symm⟩

theorem tag_Put_spec {v : List Int} (hF : FOk F) (ho : H[o]? = some (.arr 2 (fieldsC F) ro)) (hp : H[p]? = some (.arr 1 (wordsC v) rp)) (hvl : v.length = F.length) (hv : ∀ k, k < F.length → 0 ≤ v.getD k 0 ∧ v.getD k 0 < 2 ^ (F.getD k (0, 0)).2)
    (hK : K (.tup [.int .u64 (putN F v F.length), .bool true]) H) : ACalls Tryz.prog 138 [.slice o F.length 0 F.length fl, .slice p v.length 0 v.length fp] H K := by
  have k1 := Keeps.of ho
  have k2 := Keeps.of hp
  have hlen := hF.len
  have hvl' : ((F.length : Int) = (v.length : Int)) = True := eq_true (by omega)
  have hvh : Hid (v.length = F.length) := hvl
  clear hvl
  refine ACalls.tidy ?_
  refine ACalls.into ok138 (Nat.le_of_ble_eq_true rfl) ?_; (try simp only [c138, wpx_of k138_0.eq_1, wpx_of k138_1.eq_1, wpx_of k138_2.eq_1, wpx_of k138_3.eq_1, wpx_of k138_4.eq_1, wpx_of k138_6.eq_1, wpx_of k138_7.eq_1, wpx_of k138_8.eq_1, k1, k2, hvl', go_sem]); repeat' ((first
    | refine And.intro (Or.inr rfl) ?_
    | ((first | refine cB ?_ ?_ | refine gT ?_ ?_ | refine gF ?_ ?_ | refine dT ?_ ?_ | refine dF ?_ ?_) <;> intro hc)
    | refine tag_Good_spec hF ho ?_) <;> try simp only [*, wpx_of k138_0.eq_1, wpx_of k138_1.eq_1, wpx_of k138_2.eq_1, wpx_of k138_3.eq_1, wpx_of k138_4.eq_1, wpx_of k138_6.eq_1, wpx_of k138_7.eq_1, wpx_of k138_8.eq_1, k1, k2, hvl', go_sem])
  refine ALoop.keep [6, 21, 1, 19, 20] ?_; simp only [List.map_cons, List.map_nil, go_sem]
  refine ALoop.heap (List.append_nil H).symm ?_
  refine ALoop.acc (fun k G => [(6, .int .u64 (putN F v k)), (21, .int .i64 (k : Int))]) (fun k G => H ++ G) (fun k G => True) F.length ?_ (a0 := []) trivial
  intro k G hk _ next
  refine ALoop.hid fun W hW => ?_
  have k1 := k1.ex hW.ex
  have k2 := k2.ex hW.ex
  have k10 := k1.at
  have k20 := k2.at
  refine ALoop.unfold ?_
  have hw := wrap_succ (k := k) (by omega)
  by_cases hkF : k < F.length
  · obtain ⟨f, n, af⟩ := hF.at hkF
    have hg := fieldsC_get hkF
    have hvk := hv k hkF
    have hput := put_lt hF hv k (by omega)
    have hput2 := put_lt hF hv (k + 1) (by omega)
    have hs : putN F v (k + 1) = putN F v k + v.getD k 0 * 2 ^ f := by rw [putN, af.get]
    have he : endN F (k + 1) = f + n := by rw [endN, af.get]
    rw [af.get] at hg hvk
    simp only at hg hvk
    have hkv : k < v.length := by have : v.length = F.length := hvh; omega
    have hgv := wordsC_get hkv
    have fn := af.fn
    have n1 := af.n1
    have pe : (2 : Int) ^ endN F k ≤ 2 ^ f := by exact_mod_cast pow_mono af.en
    have pf : (2 : Int) ^ (f + n) ≤ 2 ^ 63 := by exact_mod_cast pow_mono fn
    rw [he] at hput2
    have b1 : aShift .shr .u64 ((maskN (f, n) : Nat) : Int) (f : Int) = some (.int .u64 (2 ^ n - 1)) := by
      rw [shr_nat (by omega), mask_div]
    have b2 : ((2 : Int) ^ n - 1 < v.getD k 0) = False := eq_false (by omega)
    have b3 : aShift .shl .u64 (v.getD k 0) (f : Int) = some (.int .u64 (v.getD k 0 * 2 ^ f)) := shl_u hvk.1 (by omega) (by omega)
    have b4 : IntKind.wrap .u64 ((BitVec.ofInt (IntKind.bits .u64) (putN F v k) ||| BitVec.ofInt (IntKind.bits .u64) (v.getD k 0 * 2 ^ f)).toNat : Int) = putN F v (k + 1) := by
      rw [hs]; exact or_add hput.1 (by omega) hvk.1 (by omega)
    have kv : ((k : Int) < (v.length : Int)) = True := eq_true (by omega)
    clear hs hput hput2 hvk he hv
    generalize v.getD k 0 = x at *
    simp only [go_sem] at b4
    (try simp only [wpx_of k138_0.eq_1, wpx_of k138_1.eq_1, wpx_of k138_2.eq_1, wpx_of k138_3.eq_1, wpx_of k138_4.eq_1, wpx_of k138_6.eq_1, wpx_of k138_7.eq_1, wpx_of k138_8.eq_1, k1, k10, k2, k20, hw, hg, hgv, hkF, kv, b1, b2, b3, b4, wpx_of b138_5.eq_1, nlt_iff, n0_le, List.cons_append, List.nil_append, go_sem]); repeat' ((first
    | refine And.intro (Or.inr rfl) ?_
    | ((first | refine cB ?_ ?_ | refine gT ?_ ?_ | refine gF ?_ ?_ | refine dT ?_ ?_ | refine dF ?_ ?_) <;> intro hc)
    | refine mask_spec n1 fn ?_) <;> try simp only [*, wpx_of k138_0.eq_1, wpx_of k138_1.eq_1, wpx_of k138_2.eq_1, wpx_of k138_3.eq_1, wpx_of k138_4.eq_1, wpx_of k138_6.eq_1, wpx_of k138_7.eq_1, wpx_of k138_8.eq_1, k1, k10, k2, k20, hw, hg, hgv, hkF, kv, b1, b2, b3, b4, wpx_of b138_5.eq_1, nlt_iff, n0_le, List.cons_append, List.nil_append, go_sem])
    have hW : W = _ := hW
    subst hW
    simp only [List.append_assoc]
    (refine ALoop.keep [6, 21, 1, 19, 20] ?_; simp only [List.map_cons, List.map_nil, go_sem]; refine next _ hkF trivial)
  · have : k = F.length := by omega
    subst this
    (try simp only [wpx_of k138_0.eq_1, wpx_of k138_1.eq_1, wpx_of k138_2.eq_1, wpx_of k138_3.eq_1, wpx_of k138_4.eq_1, wpx_of k138_6.eq_1, wpx_of k138_7.eq_1, wpx_of k138_8.eq_1, k1, k10, hw, hkF, wpx_of b138_5.eq_1, nlt_iff, n0_le, List.cons_append, List.nil_append, go_sem]); repeat' ((first
    | refine And.intro (Or.inr rfl) ?_
    | ((first | refine cB ?_ ?_ | refine gT ?_ ?_ | refine gF ?_ ?_ | refine dT ?_ ?_ | refine dF ?_ ?_) <;> intro hc)) <;> try simp only [*, wpx_of k138_0.eq_1, wpx_of k138_1.eq_1, wpx_of k138_2.eq_1, wpx_of k138_3.eq_1, wpx_of k138_4.eq_1, wpx_of k138_6.eq_1, wpx_of k138_7.eq_1, wpx_of k138_8.eq_1, k1, k10, hw, hkF, wpx_of b138_5.eq_1, nlt_iff, n0_le, List.cons_append, List.nil_append, go_sem])
    have hW : W = _ := hW
    subst hW
    exact ⟨rfl, ⟨_, rfl⟩, hK⟩

end
end Go.Proofs.YtipigjckoejfpaaGreat.Ax

/- Capabilities in words: what the program's functions answer. Conditions: none. -/
namespace Go.Ax.M
open Go Go.Ax
def capF : List (Nat × Nat) := [(0, 8), (8, 8), (16, 16), (32, 16)]
theorem capF_ok : FOk capF := ⟨by decide, by decide⟩
def capV (c : Cap) : List Int := [c.ty, c.ri, c.ba, c.th]
theorem cGood_in {c : Cap} (h : cGood c = true) : 0 ≤ c.ty ∧ c.ty ≤ 5 ∧ 0 ≤ c.ri ∧ c.ri ≤ 7 ∧ 0 ≤ c.ba ∧ c.ba ≤ 65535 ∧ 0 ≤ c.th ∧ c.th ≤ 47 := by
  simp only [cGood, Bool.or_eq_true, Bool.and_eq_true] at h
  rcases h with h | ⟨h1, h2, h3, h4, -⟩
  · simp only [cNone, Bool.and_eq_true, decide_eq_true_eq] at h; omega
  · simp only [inB_iff, rGood, rBadge] at h1 h2 h3 h4
    omega
theorem capV_ok {c : Cap} (h : cGood c = true) : ∀ k, k < capF.length → 0 ≤ (capV c).getD k 0 ∧ (capV c).getD k 0 < 2 ^ (capF.getD k (0, 0)).2 := by
  intro k hk
  have := cGood_in h
  have hk : k < 4 := hk
  rcases k with _ | _ | _ | _ | k
  · simp [capV, capF]; omega
  · simp [capV, capF]; omega
  · simp [capV, capF]; omega
  · simp [capV, capF]; omega
  · omega
theorem cap_put {c : Cap} (h : cGood c = true) : putN capF (capV c) capF.length = cWord c := by
  simp [putN, capF, capV, cWord, h]
end Go.Ax.M
namespace Go.Proofs.YtipigjckoejfpaaGreat.Ax
open Go Go.Ax Go.Ax.M
section
variable {H : Heap} {K : AVal → Heap → Prop} {c : Cap}

theorem cap_fields_spec (h : K (.slice H.length 4 0 4 true) (H ++ [.arr 2 (fieldsC capF) false])) : ACalls Tryz.prog 139 [] H K := by
  refine ACalls.gc ?_
  refine ACalls.into ok139 (Nat.le_of_ble_eq_true rfl) ?_; (try simp only [c139, wpx_of k139_0.eq_1, go_sem]); repeat' ((first
    | refine And.intro (Or.inr rfl) ?_
    | ((first | refine cB ?_ ?_ | refine gT ?_ ?_ | refine gF ?_ ?_ | refine dT ?_ ?_ | refine dF ?_ ?_) <;> intro hc)) <;> try simp only [*, wpx_of k139_0.eq_1, go_sem])
  exact Gc.slice (i := 0) rfl (by decide) h

theorem cap_Word_spec (hg : cGood c = true) (hK : K (.tup [.int .u64 (cWord c), .bool true]) H) : ACalls Tryz.prog 60 [.agg c.cells] H K := by
  have hi := cGood_in hg
  have w1 : IntKind.wrap .u64 c.ty = c.ty := wrap_u (by omega) (by omega)
  have w2 : IntKind.wrap .u64 c.ri = c.ri := wrap_u (by omega) (by omega)
  have w3 : IntKind.wrap .u64 c.ba = c.ba := wrap_u (by omega) (by omega)
  have w4 : IntKind.wrap .u64 c.th = c.th := wrap_u (by omega) (by omega)
  refine ACalls.tidy ?_
  unfold Cap.cells
  refine ACalls.into ok60 (Nat.le_of_ble_eq_true rfl) ?_; (try simp only [c60, wpx_of k60_0.eq_1, wpx_of k60_1.eq_1, wpx_of k60_2.eq_1, hg, w1, w2, w3, w4, go_sem]); repeat' ((first
    | refine And.intro (Or.inr rfl) ?_
    | ((first | refine cB ?_ ?_ | refine gT ?_ ?_ | refine gF ?_ ?_ | refine dT ?_ ?_ | refine dF ?_ ?_) <;> intro hc)
    | refine cap_Good_x ?_
    | refine cap_fields_spec ?_
    | refine tag_Put_spec (F := capF) (v := capV c) capF_ok (by first | exact at0 | exact at1 | exact at2 | exact at3 | exact at4 | exact at5 | exact at6 | exact at7 | exact at8 | exact at9 | exact at10 | exact at11 | exact at12 | exact at13 | exact at14 | exact at15 | exact at16 | exact atX rfl) (by first | exact at0 | exact at1 | exact at2 | exact at3 | exact at4 | exact at5 | exact at6 | exact at7 | exact at8 | exact at9 | exact at10 | exact at11 | exact at12 | exact at13 | exact at14 | exact at15 | exact at16 | exact atX rfl) rfl (capV_ok hg) ?_) <;> try simp only [*, wpx_of k60_0.eq_1, wpx_of k60_1.eq_1, wpx_of k60_2.eq_1, hg, w1, w2, w3, w4, go_sem])
  exact ⟨rfl, ⟨_, rfl⟩, by rw [cap_put hg]; exact hK⟩

end
end Go.Proofs.YtipigjckoejfpaaGreat.Ax

/- Pages: what the program's functions answer that tell of a slot. Conditions: none. -/
namespace Go.Proofs.YtipigjckoejfpaaGreat.Ax
open Go Go.Ax Go.Ax.M
section
variable {H : Heap} {K : AVal → Heap → Prop} {s : State} {th x y w : Int} {a b : List Int} {oS oT oA oB : Nat} {fS fT rS rT fA fB rA rB : Bool}

theorem forest_Depth_x {up : List Int} {i : Int} {o n : Nat} {fl ro : Bool} (en : up.length = n) (ho : H[o]? = some (.arr 1 (ints up) ro)) (hlen : n ≤ 1000) (h : K (.int .i64 (fDepth up i)) H) : ACalls Tryz.prog 137 [.agg [.slice o n 0 n fl], .int .i64 i] H K := by
  subst en; exact forest_Depth_spec ho hlen h

theorem leaf13 {x y w : Int} {a b : List Int} (h : callGood ⟨13, a, b, x, y, w⟩ = true) : leafM s th ⟨13, a, b, x, y, w⟩ =
    bif !decide ((fCap s th a).2.2 = 0) then .bad (fCap s th a).2.2 else ⟨0, cWord (fCap s th a).2.1, fDepth (sForest s) (fCap s th a).1, none⟩ := by
  simp [leafM, h]

theorem leaf_Do_tell (hS : H[oS]? = some (.arr 5 (s.slots.map Slot.cells) rS)) (hT : H[oT]? = some (.arr 13 (s.things.map Thing.cells) rT)) (hA : H[oA]? = some (.arr 1 (ints a) rA)) (hB : H[oB]? = some (.arr 1 (ints b) rB))
    (h : K (.tup [.agg [.int .i64 s.geo.threads, .int .i64 s.geo.slots, .int .i64 s.geo.things, .slice oS s.slots.length 0 s.slots.length fS, .slice oT s.things.length 0 s.things.length fT], (leafM s th ⟨13, a, b, x, y, w⟩).reply]) H) :
    ACalls Tryz.prog 58 [.agg [.int .i64 s.geo.threads, .int .i64 s.geo.slots, .int .i64 s.geo.things, .slice oS s.slots.length 0 s.slots.length fS, .slice oT s.things.length 0 s.things.length fT], .int .i64 th, .agg [.int .i64 13, .slice oA a.length 0 a.length fA, .slice oB b.length 0 b.length fB, .int .i64 x, .int .i64 y, .int .u64 w]] H K := by
  have kT := Keeps.of hT
  have kS := Keeps.of hS
  have kA := Keeps.of hA
  have kB := Keeps.of hB
  have hv := fun (e v n : Int) => show (AVal.tup [.agg [.int .i64 s.geo.threads, .int .i64 s.geo.slots, .int .i64 s.geo.things, .slice oS s.slots.length 0 s.slots.length fS, .slice oT s.things.length 0 s.things.length fT], .agg [.int .i64 e, .int .u64 v, .int .i64 n]]).refs (fun o => o < H.length) by simp [AVal.refs, refsL]; exact ⟨get_lt hS, get_lt hT⟩
  have hlF : (sForest s).length = s.slots.length := by simp [sForest]
  cases hcg : callGood ⟨13, a, b, x, y, w⟩ with
  | false =>
    have e : leafM s th ⟨13, a, b, x, y, w⟩ = .bad 1 := by simp only [leafM, hcg, Bool.not_false, Bool.true_or, cond_true]
    rw [e] at h
    refine ACalls.gc ?_
    refine ACalls.into ok58 (Nat.le_of_ble_eq_true rfl) ?_; (try simp only [c58, wpx_of k58_0.eq_1, wpx_of k58_1.eq_1, wpx_of k58_2.eq_1, wpx_of k58_3.eq_1, wpx_of k58_4.eq_1, wpx_of k58_5.eq_1, wpx_of k58_6.eq_1, wpx_of k58_7.eq_1, wpx_of k58_8.eq_1, wpx_of k58_9.eq_1, wpx_of k58_10.eq_1, wpx_of k58_11.eq_1, wpx_of k58_12.eq_1, wpx_of k58_13.eq_1, wpx_of k58_14.eq_1, wpx_of k58_15.eq_1, wpx_of k58_16.eq_1, wpx_of k58_17.eq_1, stV, slotsO, thingsO, Nat.add_assoc, hcg, go_sem]); repeat' ((first
    | refine And.intro (Or.inr rfl) ?_
    | ((first | refine cB ?_ ?_ | refine gT ?_ ?_ | refine gF ?_ ?_ | refine dT ?_ ?_ | refine dF ?_ ?_) <;> intro hc)
    | refine call_Good_spec (c := ⟨13, a, b, x, y, w⟩) (kA _) (kB _) ?_) <;> try simp only [*, wpx_of k58_0.eq_1, wpx_of k58_1.eq_1, wpx_of k58_2.eq_1, wpx_of k58_3.eq_1, wpx_of k58_4.eq_1, wpx_of k58_5.eq_1, wpx_of k58_6.eq_1, wpx_of k58_7.eq_1, wpx_of k58_8.eq_1, wpx_of k58_9.eq_1, wpx_of k58_10.eq_1, wpx_of k58_11.eq_1, wpx_of k58_12.eq_1, wpx_of k58_13.eq_1, wpx_of k58_14.eq_1, wpx_of k58_15.eq_1, wpx_of k58_16.eq_1, wpx_of k58_17.eq_1, stV, slotsO, thingsO, Nat.add_assoc, hcg, go_sem])
    exact Gc.old (hv _ _ _) h
  | true =>
    rw [leaf13 hcg] at h
    by_cases he : (fCap s th a).2.2 = 0
    · have hok := fCap_ok he
      have hgood : sGood s = true := hok.1.ok.good
      have hgc : cGood (fCap s th a).2.1 = true := by rw [hok.2.2.2.1]; exact hok.1.capG _ (by omega)
      clear hok
      rw [he] at h
      simp only [decide_true, Bool.not_true, cond_false, Res.reply] at h
      refine ACalls.gc ?_
      refine ACalls.into ok58 (Nat.le_of_ble_eq_true rfl) ?_; (try simp only [c58, wpx_of k58_0.eq_1, wpx_of k58_1.eq_1, wpx_of k58_2.eq_1, wpx_of k58_3.eq_1, wpx_of k58_4.eq_1, wpx_of k58_5.eq_1, wpx_of k58_6.eq_1, wpx_of k58_7.eq_1, wpx_of k58_8.eq_1, wpx_of k58_9.eq_1, wpx_of k58_10.eq_1, wpx_of k58_11.eq_1, wpx_of k58_12.eq_1, wpx_of k58_13.eq_1, wpx_of k58_14.eq_1, wpx_of k58_15.eq_1, wpx_of k58_16.eq_1, wpx_of k58_17.eq_1, stV, slotsO, thingsO, Nat.add_assoc, Cap.cells, he, hcg, go_sem]); repeat' ((first
    | refine And.intro (Or.inr rfl) ?_
    | ((first | refine cB ?_ ?_ | refine gT ?_ ?_ | refine gF ?_ ?_ | refine dT ?_ ?_ | refine dF ?_ ?_) <;> intro hc)
    | refine call_Good_spec (c := ⟨13, a, b, x, y, w⟩) (kA _) (kB _) ?_
    | refine find_Cap_spec (kS _) (kT _) (kA _) ?_
    | refine cap_Word_spec (c := (fCap s th a).2.1) hgc ?_
    | refine state_Forest_spec (s := s) (kS _) (lS_of hgood) ?_
    | refine forest_Depth_x (up := sForest s) hlF (by first | exact at0 | exact at1 | exact at2 | exact at3 | exact at4 | exact at5 | exact at6 | exact at7 | exact at8 | exact at9 | exact at10 | exact at11 | exact at12 | exact at13 | exact at14 | exact at15 | exact at16 | exact atX rfl) (lS_of hgood) ?_) <;> try simp only [*, wpx_of k58_0.eq_1, wpx_of k58_1.eq_1, wpx_of k58_2.eq_1, wpx_of k58_3.eq_1, wpx_of k58_4.eq_1, wpx_of k58_5.eq_1, wpx_of k58_6.eq_1, wpx_of k58_7.eq_1, wpx_of k58_8.eq_1, wpx_of k58_9.eq_1, wpx_of k58_10.eq_1, wpx_of k58_11.eq_1, wpx_of k58_12.eq_1, wpx_of k58_13.eq_1, wpx_of k58_14.eq_1, wpx_of k58_15.eq_1, wpx_of k58_16.eq_1, wpx_of k58_17.eq_1, stV, slotsO, thingsO, Nat.add_assoc, Cap.cells, he, hcg, go_sem])
      exact Gc.old (hv _ _ _) h
    · have e : (bif !decide ((fCap s th a).2.2 = 0) then Res.bad (fCap s th a).2.2 else ⟨0, cWord (fCap s th a).2.1, fDepth (sForest s) (fCap s th a).1, none⟩) = Res.bad (fCap s th a).2.2 := by rw [decide_eq_false he]; rfl
      rw [e] at h
      refine ACalls.gc ?_
      refine ACalls.into ok58 (Nat.le_of_ble_eq_true rfl) ?_; (try simp only [c58, wpx_of k58_0.eq_1, wpx_of k58_1.eq_1, wpx_of k58_2.eq_1, wpx_of k58_3.eq_1, wpx_of k58_4.eq_1, wpx_of k58_5.eq_1, wpx_of k58_6.eq_1, wpx_of k58_7.eq_1, wpx_of k58_8.eq_1, wpx_of k58_9.eq_1, wpx_of k58_10.eq_1, wpx_of k58_11.eq_1, wpx_of k58_12.eq_1, wpx_of k58_13.eq_1, wpx_of k58_14.eq_1, wpx_of k58_15.eq_1, wpx_of k58_16.eq_1, wpx_of k58_17.eq_1, stV, slotsO, thingsO, Nat.add_assoc, Cap.cells, he, hcg, go_sem]); repeat' ((first
    | refine And.intro (Or.inr rfl) ?_
    | ((first | refine cB ?_ ?_ | refine gT ?_ ?_ | refine gF ?_ ?_ | refine dT ?_ ?_ | refine dF ?_ ?_) <;> intro hc)
    | refine call_Good_spec (c := ⟨13, a, b, x, y, w⟩) (kA _) (kB _) ?_
    | refine find_Cap_spec (kS _) (kT _) (kA _) ?_) <;> try simp only [*, wpx_of k58_0.eq_1, wpx_of k58_1.eq_1, wpx_of k58_2.eq_1, wpx_of k58_3.eq_1, wpx_of k58_4.eq_1, wpx_of k58_5.eq_1, wpx_of k58_6.eq_1, wpx_of k58_7.eq_1, wpx_of k58_8.eq_1, wpx_of k58_9.eq_1, wpx_of k58_10.eq_1, wpx_of k58_11.eq_1, wpx_of k58_12.eq_1, wpx_of k58_13.eq_1, wpx_of k58_14.eq_1, wpx_of k58_15.eq_1, wpx_of k58_16.eq_1, wpx_of k58_17.eq_1, stV, slotsO, thingsO, Nat.add_assoc, Cap.cells, he, hcg, go_sem])
      exact Gc.old (hv _ _ _) h

end
end Go.Proofs.YtipigjckoejfpaaGreat.Ax
