/- The laws of copies and moves, walked. Conditions: none. -/
import Derived.Test.YtipigjckoejfpaaSLawB16Z
import Derived.Test.YtipigjckoejfpaaSGive2Z
import Derived.Test.YtipigjckoejfpaaSArgZ
import Derived.Test.YtipigjckoejfpaaZPu
set_option linter.unusedSimpArgs false
set_option linter.unusedVariables false
namespace Go.Proofs.Ytipigjckoejfpaa.Ax
open Go Go.Ax Go.Ax.M
set_option linter.unusedSimpArgs false
set_option linter.unusedVariables false
set_option maxRecDepth 100000
section
variable {H : Heap} {K : AVal → Heap → Prop}

theorem awake16_spec (h : K (.bool true) H) : ACalls Try.prog 30 [] H K := by
  have f1 : (putS S0 1 2 ⟨3, 1, 1, 0⟩).slots.length = 32 := by kernel_rfl
  have f2 : ((putS S0 1 2 ⟨3, 1, 1, 0⟩).slots.map Slot.cells)[2]? = some [.int .i64 3, .int .i64 1, .int .i64 1, .int .i64 0, .int .i64 1] := by kernel_rfl
  refine ACalls.tidy ?_
  refine ACalls.into ok30 (Nat.le_of_ble_eq_true rfl) ?_; (try simp only [c30, wpx_of k30_0.eq_1, wpx_of k30_1.eq_1, stV, slotsO, thingsO, Nat.add_assoc, f1, f2, Int.cast_ofNat_Int, decide_true, cond_true, go_sem]); repeat' ((first
    | refine And.intro (Or.inr rfl) ?_
    | ((first | refine cB ?_ ?_ | refine gT ?_ ?_ | refine gF ?_ ?_ | refine dT ?_ ?_ | refine dF ?_ ?_) <;> intro hc)
    | refine first16_spec ?_
    | refine way16_spec (by first | exact at0 | exact at1 | exact at2 | exact at3 | exact at4 | exact at5 | exact at6 | exact at7 | exact at8 | exact at9 | exact at10 | exact at11 | exact at12 | exact at13 | exact at14 | exact at15 | exact at16 | exact atX rfl) ?_
    | refine DoSpec.som give_Do_spec (s := S0) (c := ⟨2, [1], [2], 1, 0, 0⟩) (e := 0) (w := 0) (n := 0) (s' := putS S0 1 2 ⟨3, 1, 1, 0⟩) (by kernel_rfl) (by first | exact at0 | exact at1 | exact at2 | exact at3 | exact at4 | exact at5 | exact at6 | exact at7 | exact at8 | exact at9 | exact at10 | exact at11 | exact at12 | exact at13 | exact at14 | exact at15 | exact at16 | exact atX rfl) (by first | exact at0 | exact at1 | exact at2 | exact at3 | exact at4 | exact at5 | exact at6 | exact at7 | exact at8 | exact at9 | exact at10 | exact at11 | exact at12 | exact at13 | exact at14 | exact at15 | exact at16 | exact atX rfl) (by first | exact at0 | exact at1 | exact at2 | exact at3 | exact at4 | exact at5 | exact at6 | exact at7 | exact at8 | exact at9 | exact at10 | exact at11 | exact at12 | exact at13 | exact at14 | exact at15 | exact at16 | exact atX rfl) (by first | exact at0 | exact at1 | exact at2 | exact at3 | exact at4 | exact at5 | exact at6 | exact at7 | exact at8 | exact at9 | exact at10 | exact at11 | exact at12 | exact at13 | exact at14 | exact at15 | exact at16 | exact atX rfl) ?_) <;> try simp only [*, wpx_of k30_0.eq_1, wpx_of k30_1.eq_1, stV, slotsO, thingsO, Nat.add_assoc, f1, f2, Int.cast_ofNat_Int, decide_true, cond_true, go_sem])
  all_goals first | exact ⟨rfl, _, rfl⟩ | exact tb h ⟨_, rfl⟩ rfl

theorem heavyN {s : State} {c : M.Call} (h : heavyM s c = false) : s.slots.length ≤ 1000 := by simp [heavyM] at h; omega

theorem giveMoves_law (H : Heap) (bs : List AVal) (h : ArgShapes Try.prog H 8 [27, 3, 28, 28] bs) : ACalls Try.prog 9 bs H fun v _ => v = .bool true := by
  obtain ⟨a1, l, rfl, h1, h⟩ := argShapes_cons h
  obtain ⟨a2, l, rfl, h2, h⟩ := argShapes_cons h
  obtain ⟨a3, l, rfl, h3, h⟩ := argShapes_cons h
  obtain ⟨a4, l, rfl, h4, h⟩ := argShapes_cons h
  obtain rfl := argShapes_nil h
  obtain ⟨s, oS, oT, rfl, hS, hT⟩ := arg_state h1
  obtain ⟨th, rfl, -⟩ := h2.int Try.underlying3
  obtain ⟨oA, a, rfl, hA⟩ := arg_ints h3
  obtain ⟨oB, b, rfl, hB⟩ := arg_ints h4
  clear h1 h2 h3 h4 h
  have kS := Keeps.of hS
  have kT := Keeps.of hT
  have kA := Keeps.of hA
  have kB := Keeps.of hB
  have hn : (giveM s th ⟨4, a, b, 0, 0, 0⟩).st = none → ((giveM s th ⟨4, a, b, 0, 0, 0⟩).err = 0) = False := fun h => eq_false (giveM_none h)
  have hss : ∀ s, sSame s s = true := fun s => sSame_iff.2 rfl
  have hab : ∀ x, (giveM s th ⟨4, a, b, 0, 0, 0⟩).st = some x → (a.length : Int) = 1 → (b.length : Int) = 1 → (giveM s th ⟨4, a, b, 0, 0, 0⟩).err = 0 ∧ giveM x th ⟨4, b, a, 0, 0, 0⟩ = ⟨0, 0, 0, some s⟩ := by
    intro x hx ha hb
    obtain ⟨a0, rfl⟩ := List.length_eq_one_iff.1 (show a.length = 1 by omega)
    obtain ⟨b0, rfl⟩ := List.length_eq_one_iff.1 (show b.length = 1 by omega)
    exact give_moves hx
  refine ACalls.into ok9 (Nat.le_of_ble_eq_true rfl) ?_; (try simp only [c9, wpx_of k9_0.eq_1, wpx_of k9_1.eq_1, wpx_of k9_2.eq_1, wpx_of k9_3.eq_1, wpx_of k9_4.eq_1, wpx_of k9_5.eq_1, wpx_of k9_6.eq_1, wpx_of k9_7.eq_1, wpx_of k9_8.eq_1, wpx_of k9_9.eq_1, stV, slotsO, thingsO, Nat.add_assoc, Res.reply, hn, hss, go_sem]); repeat' ((first
    | refine And.intro (Or.inr rfl) ?_
    | ((first | refine cB ?_ ?_ | refine gT ?_ ?_ | refine gF ?_ ?_ | refine dT ?_ ?_ | refine dF ?_ ?_) <;> intro hc)
    | refine awake16_spec ?_
    | refine way16_spec (by first | exact kS _ | exact kT _ | exact kA _ | exact kB _ | exact kC _ | exact kD _ | exact kX _ | exact at0 | exact at1 | exact at2 | exact at3 | exact at4 | exact at5 | exact at6 | exact at7 | exact at8 | exact at9 | exact at10 | exact at11 | exact at12 | exact at13 | exact at14 | exact at15 | exact at16 | exact atX rfl) ?_
    | refine heavy16_spec (c := ⟨4, a, b, 0, 0, 0⟩) ?_
    | refine state_Good_spec (kS _) (kT _) ?_
    | refine give_Do_spec (c := ⟨4, a, b, 0, 0, 0⟩) (kS _) (kT _) (kA _) (kB _) (fun hc => ?_) (fun x hc => (fun e => ?_) (hab x hc (by assumption) (by assumption)))
    | refine state_Same_spec (kS _) (kT _) (kS _) (kT _) (lS_of (by assumption)) (lT_of (by assumption)) ?_) <;> try simp only [*, wpx_of k9_0.eq_1, wpx_of k9_1.eq_1, wpx_of k9_2.eq_1, wpx_of k9_3.eq_1, wpx_of k9_4.eq_1, wpx_of k9_5.eq_1, wpx_of k9_6.eq_1, wpx_of k9_7.eq_1, wpx_of k9_8.eq_1, wpx_of k9_9.eq_1, stV, slotsO, thingsO, Nat.add_assoc, Res.reply, hn, hss, go_sem])
  rename_i x hc e
  have hg : sGood s = true := by assumption
  obtain ⟨e1, e2⟩ := e
  (try simp only [wpx_of k9_0.eq_1, wpx_of k9_1.eq_1, wpx_of k9_2.eq_1, wpx_of k9_3.eq_1, wpx_of k9_4.eq_1, wpx_of k9_5.eq_1, wpx_of k9_6.eq_1, wpx_of k9_7.eq_1, wpx_of k9_8.eq_1, wpx_of k9_9.eq_1, stV, slotsO, thingsO, Nat.add_assoc, Res.reply, hss, go_sem]); repeat' ((first
    | refine And.intro (Or.inr rfl) ?_
    | ((first | refine cB ?_ ?_ | refine gT ?_ ?_ | refine gF ?_ ?_ | refine dT ?_ ?_ | refine dF ?_ ?_) <;> intro hc)
    | refine way16_spec (by first | exact kS _ | exact kT _ | exact kA _ | exact kB _ | exact kC _ | exact kD _ | exact kX _ | exact at0 | exact at1 | exact at2 | exact at3 | exact at4 | exact at5 | exact at6 | exact at7 | exact at8 | exact at9 | exact at10 | exact at11 | exact at12 | exact at13 | exact at14 | exact at15 | exact at16 | exact atX rfl) ?_
    | refine DoSpec.som give_Do_spec (c := ⟨4, b, a, 0, 0, 0⟩) e2 (by first | exact at0 | exact at1 | exact at2 | exact at3 | exact at4 | exact at5 | exact at6 | exact at7 | exact at8 | exact at9 | exact at10 | exact at11 | exact at12 | exact at13 | exact at14 | exact at15 | exact at16 | exact atX rfl) (by first | exact at0 | exact at1 | exact at2 | exact at3 | exact at4 | exact at5 | exact at6 | exact at7 | exact at8 | exact at9 | exact at10 | exact at11 | exact at12 | exact at13 | exact at14 | exact at15 | exact at16 | exact atX rfl) (kB _) (kA _) ?_
    | refine state_Same_spec (by first | exact at0 | exact at1 | exact at2 | exact at3 | exact at4 | exact at5 | exact at6 | exact at7 | exact at8 | exact at9 | exact at10 | exact at11 | exact at12 | exact at13 | exact at14 | exact at15 | exact at16 | exact atX rfl) (by first | exact at0 | exact at1 | exact at2 | exact at3 | exact at4 | exact at5 | exact at6 | exact at7 | exact at8 | exact at9 | exact at10 | exact at11 | exact at12 | exact at13 | exact at14 | exact at15 | exact at16 | exact atX rfl) (kS _) (kT _) (lS_of hg) (lT_of hg) ?_) <;> try simp only [*, wpx_of k9_0.eq_1, wpx_of k9_1.eq_1, wpx_of k9_2.eq_1, wpx_of k9_3.eq_1, wpx_of k9_4.eq_1, wpx_of k9_5.eq_1, wpx_of k9_6.eq_1, wpx_of k9_7.eq_1, wpx_of k9_8.eq_1, wpx_of k9_9.eq_1, stV, slotsO, thingsO, Nat.add_assoc, Res.reply, hss, go_sem])

theorem rights_less {r w : Int} (hw : rGood w = true) (c : Cap) (h : r = (cCut c w).ri) : IntKind.wrap .i64 ((BitVec.ofInt 64 r &&& ~~~ BitVec.ofInt 64 w).toNat) = 0 := by
  have key : ∀ a b : Fin 8, IntKind.wrap .i64 ((BitVec.ofInt 64 (IntKind.wrap .i64 ((BitVec.ofInt 64 ((a.val : Nat) : Int) &&& BitVec.ofInt 64 ((b.val : Nat) : Int)).toNat)) &&& ~~~ BitVec.ofInt 64 ((b.val : Nat) : Int)).toNat) = 0 := by decide
  have hw' := hw
  simp only [rGood] at hw'
  rw [inB_iff] at hw'
  have ho : ∀ x, 0 ≤ rOf x ∧ rOf x ≤ 7 := fun x => by
    simp only [rOf]
    cases hx : rGood x with
    | false => simp
    | true => simp only [rGood] at hx; rw [inB_iff] at hx; simpa using hx
  have how : rOf w = w := by simp [rOf, hw]
  simp only [cCut] at h
  cases hg : cGood c with
  | false => rw [hg] at h; simp only [cond_false, Cap.zero] at h; subst h; rw [show BitVec.ofInt 64 0 = 0#64 from rfl, BitVec.zero_and]; rfl
  | true =>
    rw [hg] at h
    simp only [cond_true, rBoth, how, IntKind.bits] at h
    have := key ⟨(rOf c.ri).toNat, by have := ho c.ri; omega⟩ ⟨w.toNat, by omega⟩
    simp only [show ((w.toNat : Nat) : Int) = w by omega, show (((rOf c.ri).toNat : Nat) : Int) = rOf c.ri by have := ho c.ri; omega] at this
    rw [h]; exact this

set_option maxHeartbeats 2000000 in
theorem giveLess_law (H : Heap) (bs : List AVal) (h : ArgShapes Try.prog H 8 [27, 3, 35] bs) : ACalls Try.prog 10 bs H fun v _ => v = .bool true := by
  obtain ⟨a1, l, rfl, h1, h⟩ := argShapes_cons h
  obtain ⟨a2, l, rfl, h2, h⟩ := argShapes_cons h
  obtain ⟨a3, l, rfl, h3, h⟩ := argShapes_cons h
  obtain rfl := argShapes_nil h
  obtain ⟨s, oS, oT, rfl, hS, hT⟩ := arg_state h1
  obtain ⟨th, rfl, -⟩ := h2.int Try.underlying3
  obtain ⟨c, oA, oB, rfl, hA, hB⟩ := arg_call h3
  clear h1 h2 h3 h
  have kS := Keeps.of hS
  have kT := Keeps.of hT
  have kA := Keeps.of hA
  have kB := Keeps.of hB
  have hss : ∀ s, sSame s s = true := fun s => sSame_iff.2 rfl
  obtain ⟨op, a, b, x0, y0, w0⟩ := c
  simp only at hA hB kA kB ⊢
  by_cases hop : op = 2 ∨ op = 3
  · have hn : (giveM s th ⟨op, a, b, x0, y0, w0⟩).st = none → ((giveM s th ⟨op, a, b, x0, y0, w0⟩).err = 0) = False := fun h => eq_false (giveM_none h)
    have hgl := fun x (hc : (giveM s th ⟨op, a, b, x0, y0, w0⟩).st = some x) => give_less hc hop
    rcases hop with rfl | rfl
    all_goals
      refine ACalls.into ok10 (Nat.le_of_ble_eq_true rfl) ?_; (try simp only [c10, wpx_of k10_0.eq_1, wpx_of k10_1.eq_1, wpx_of k10_2.eq_1, wpx_of k10_3.eq_1, wpx_of k10_4.eq_1, wpx_of k10_5.eq_1, wpx_of k10_6.eq_1, wpx_of k10_8.eq_1, wpx_of k10_9.eq_1, wpx_of k10_10.eq_1, wpx_of k10_11.eq_1, wpx_of k10_12.eq_1, wpx_of k10_13.eq_1, stV, slotsO, thingsO, Nat.add_assoc, Res.reply, hn, hss, go_sem]); repeat' ((first
    | refine And.intro (Or.inr rfl) ?_
    | ((first | refine cB ?_ ?_ | refine gT ?_ ?_ | refine gF ?_ ?_ | refine dT ?_ ?_ | refine dF ?_ ?_) <;> intro hc)
    | refine awake16_spec ?_
    | refine heavy16_spec (c := ⟨_, a, b, x0, y0, w0⟩) ?_
    | refine state_Good_spec (kS _) (kT _) ?_
    | refine give_Do_spec (c := ⟨_, a, b, x0, y0, w0⟩) (kS _) (kT _) (kA _) (kB _) (fun hc => ?_) (fun x hc => (fun e => ?_) (hgl x hc))
    | refine state_Same_spec (kS _) (kT _) (kS _) (kT _) (lS_of (by assumption)) (lT_of (by assumption)) ?_) <;> try simp only [*, wpx_of k10_0.eq_1, wpx_of k10_1.eq_1, wpx_of k10_2.eq_1, wpx_of k10_3.eq_1, wpx_of k10_4.eq_1, wpx_of k10_5.eq_1, wpx_of k10_6.eq_1, wpx_of k10_8.eq_1, wpx_of k10_9.eq_1, wpx_of k10_10.eq_1, wpx_of k10_11.eq_1, wpx_of k10_12.eq_1, wpx_of k10_13.eq_1, stV, slotsO, thingsO, Nat.add_assoc, Res.reply, hn, hss, go_sem])
      rename_i x hc e
      obtain ⟨-, hxl, -, invx, t, ht, ht1, ht2, u0, u1, hcn, hcl, hri0, hcg⟩ := e
      have hri := rights_less (r := (x.slot t).cap.ri) (w := x0) (by have := hcg; simp [callGood, cNumbers] at this; exact this.2.2.2.1.1) _ hri0
      clear hri0
      have hd : ∀ k, slEq (x.slot k) (s.slot k) = false → k = t := fun k hk => Classical.byContradiction fun e => by rw [slEq_iff.2 (ht1 k e)] at hk; cases hk
      have hd1 := diffs_one ht1
      have hd2 : ((diffs s x s.slots.length : Int) = 1) = True := eq_true (by rw [diffs_hit ht1 ht ht2]; rfl)
      have hls := lS_of (s := s) (by assumption)
      clear hc hn hgl hcg
      refine ALoop.keep [10, 9, 3, 5, 7] ?_; simp only [List.map_cons, List.map_nil, go_sem]
      refine ALoop.acc (fun k (n : Int) => [(10, .int .i64 (k : Int)), (9, .int .i64 n)]) (fun k n => _) (fun k n => n = diffs s x k) s.slots.length ?_ (a0 := 0) rfl
      rintro k n hk rfl next
      refine ALoop.unfold ?_
      have hw := wrap_succ (k := k) (by omega)
      have hwn : IntKind.wrap .i64 ((diffs s x k : Int) + 1) = (diffs s x k : Int) + 1 := by have := hd1 k; exact w64 (by omega) (by omega)
      have hg1 : k < s.slots.length → _ := fun h => slots_get (s := s) (k := k) h
      have hg2 : k < s.slots.length → _ := fun h => slots_get (s := x) (k := k) (by omega)
      cases hq : slEq (x.slot k) (s.slot k) with
      | true =>
        have hq' := hq
        rw [slEq_def] at hq'
        (try simp only [wpx_of k10_0.eq_1, wpx_of k10_1.eq_1, wpx_of k10_2.eq_1, wpx_of k10_3.eq_1, wpx_of k10_4.eq_1, wpx_of k10_5.eq_1, wpx_of k10_6.eq_1, wpx_of k10_8.eq_1, wpx_of k10_9.eq_1, wpx_of k10_10.eq_1, wpx_of k10_11.eq_1, wpx_of k10_12.eq_1, wpx_of k10_13.eq_1, wpx_of b10_7.eq_1, nlt_iff, n0_le, hw, hwn, hg1, hg2, hxl, hq', hd2, List.cons_append, List.nil_append, go_sem]); repeat' ((first
    | refine And.intro (Or.inr rfl) ?_
    | ((first | refine cB ?_ ?_ | refine gT ?_ ?_ | refine gF ?_ ?_ | refine dT ?_ ?_ | refine dF ?_ ?_) <;> intro hc)) <;> try simp only [*, wpx_of k10_0.eq_1, wpx_of k10_1.eq_1, wpx_of k10_2.eq_1, wpx_of k10_3.eq_1, wpx_of k10_4.eq_1, wpx_of k10_5.eq_1, wpx_of k10_6.eq_1, wpx_of k10_8.eq_1, wpx_of k10_9.eq_1, wpx_of k10_10.eq_1, wpx_of k10_11.eq_1, wpx_of k10_12.eq_1, wpx_of k10_13.eq_1, wpx_of b10_7.eq_1, nlt_iff, n0_le, hw, hwn, hg1, hg2, hxl, hq', hd2, List.cons_append, List.nil_append, go_sem])
        · (refine ALoop.keep [10, 9, 3, 5, 7] ?_; simp only [List.map_cons, List.map_nil, go_sem]; refine next _ (by omega) ?_)
          simp [diffs, List.range_succ, hq]
        · have hk : k = s.slots.length := by omega
          subst hk
          exact absurd (of_eq_true hd2) (by assumption)
      | false =>
        obtain rfl := hd k hq
        have hu := slot_at u0 u1
        have hq' := hq
        rw [slEq_def] at hq'
        (try simp only [wpx_of k10_0.eq_1, wpx_of k10_1.eq_1, wpx_of k10_2.eq_1, wpx_of k10_3.eq_1, wpx_of k10_4.eq_1, wpx_of k10_5.eq_1, wpx_of k10_6.eq_1, wpx_of k10_8.eq_1, wpx_of k10_9.eq_1, wpx_of k10_10.eq_1, wpx_of k10_11.eq_1, wpx_of k10_12.eq_1, wpx_of k10_13.eq_1, wpx_of b10_7.eq_1, nlt_iff, n0_le, hw, hwn, hg1, hg2, hxl, ht, kS, hq', hu, hcn, hcl, hri, List.cons_append, List.nil_append, go_sem]); repeat' ((first
    | refine And.intro (Or.inr rfl) ?_
    | ((first | refine cB ?_ ?_ | refine gT ?_ ?_ | refine gF ?_ ?_ | refine dT ?_ ?_ | refine dF ?_ ?_) <;> intro hc)
    | refine cap_None_x ?_
    | refine cap_Less_x ?_) <;> try simp only [*, wpx_of k10_0.eq_1, wpx_of k10_1.eq_1, wpx_of k10_2.eq_1, wpx_of k10_3.eq_1, wpx_of k10_4.eq_1, wpx_of k10_5.eq_1, wpx_of k10_6.eq_1, wpx_of k10_8.eq_1, wpx_of k10_9.eq_1, wpx_of k10_10.eq_1, wpx_of k10_11.eq_1, wpx_of k10_12.eq_1, wpx_of k10_13.eq_1, wpx_of b10_7.eq_1, nlt_iff, n0_le, hw, hwn, hg1, hg2, hxl, ht, kS, hq', hu, hcn, hcl, hri, List.cons_append, List.nil_append, go_sem])
        · exact absurd hri (by assumption)
        · (refine ALoop.keep [10, 9, 3, 5, 7] ?_; simp only [List.map_cons, List.map_nil, go_sem]; refine next _ (by omega) ?_)
          simp [diffs, List.range_succ, hq]
  · have h2 : (op = 2) = False := eq_false fun e => hop (.inl e)
    have h3 : (op = 3) = False := eq_false fun e => hop (.inr e)
    refine ACalls.into ok10 (Nat.le_of_ble_eq_true rfl) ?_; (try simp only [c10, wpx_of k10_0.eq_1, wpx_of k10_1.eq_1, wpx_of k10_2.eq_1, wpx_of k10_3.eq_1, wpx_of k10_4.eq_1, wpx_of k10_5.eq_1, wpx_of k10_6.eq_1, wpx_of k10_8.eq_1, wpx_of k10_9.eq_1, wpx_of k10_10.eq_1, wpx_of k10_11.eq_1, wpx_of k10_12.eq_1, wpx_of k10_13.eq_1, stV, slotsO, thingsO, Nat.add_assoc, h2, h3, go_sem]); repeat' ((first
    | refine And.intro (Or.inr rfl) ?_
    | ((first | refine cB ?_ ?_ | refine gT ?_ ?_ | refine gF ?_ ?_ | refine dT ?_ ?_ | refine dF ?_ ?_) <;> intro hc)
    | refine awake16_spec ?_
    | refine heavy16_spec (c := ⟨op, a, b, x0, y0, w0⟩) ?_
    | refine state_Good_spec (kS _) (kT _) ?_) <;> try simp only [*, wpx_of k10_0.eq_1, wpx_of k10_1.eq_1, wpx_of k10_2.eq_1, wpx_of k10_3.eq_1, wpx_of k10_4.eq_1, wpx_of k10_5.eq_1, wpx_of k10_6.eq_1, wpx_of k10_8.eq_1, wpx_of k10_9.eq_1, wpx_of k10_10.eq_1, wpx_of k10_11.eq_1, wpx_of k10_12.eq_1, wpx_of k10_13.eq_1, stV, slotsO, thingsO, Nat.add_assoc, h2, h3, go_sem])

theorem giveBadges_law (H : Heap) (bs : List AVal) (h : ArgShapes Try.prog H 8 [3, 3, 3] bs) : ACalls Try.prog 8 bs H fun v _ => v = .bool true := by
  obtain ⟨a1, l, rfl, h1, h⟩ := argShapes_cons h
  obtain ⟨a2, l, rfl, h2, h⟩ := argShapes_cons h
  obtain ⟨a3, l, rfl, h3, h⟩ := argShapes_cons h
  obtain rfl := argShapes_nil h
  obtain ⟨b, rfl, -⟩ := h1.int Try.underlying3
  obtain ⟨r, rfl, -⟩ := h2.int Try.underlying3
  obtain ⟨o, rfl, -⟩ := h3.int Try.underlying3
  clear h1 h2 h3 h
  by_cases hb : 1 ≤ b ∧ b ≤ 65535 ∧ 0 ≤ r ∧ r ≤ 7 ∧ 1 ≤ o ∧ o ≤ 65535
  · obtain ⟨b0, b1, r0, r7, o0, o1⟩ := hb
    have c0 : (b < 1) = False := eq_false (by omega)
    have c1 : (65535 < b) = False := eq_false (by omega)
    have c2 : (r < 0) = False := eq_false (by omega)
    have c3 : (7 < r) = False := eq_false (by omega)
    have c4 : (o < 1) = False := eq_false (by omega)
    have c5 : (65535 < o) = False := eq_false (by omega)
    have g1 := (b1_give b0 b1).2
    have g2 := (b2_give b0 b1 r0 r7).2
    have g3 := b3_give b0 b1 r0 r7 o0 o1
    have hl : (B2 b r).slots.length = 32 := by show (List.set _ _ _).length = 32; rw [List.length_set]; show (List.set _ _ _).length = 32; rw [List.length_set]; rfl
    have hs : ((B2 b r).slots.map Slot.cells)[3]? = some [.int .i64 3, .int .i64 1, .int .i64 r, .int .i64 b, .int .i64 2] := by
      have := slots_get (s := B2 b r) (k := 3) (by omega)
      rw [B2_slot (by decide), if_pos rfl] at this; exact this
    clear b0 b1 r0 r7 o0 o1
    refine ACalls.into ok8 (Nat.le_of_ble_eq_true rfl) ?_; (try simp only [c8, wpx_of k8_0.eq_1, wpx_of k8_1.eq_1, wpx_of k8_2.eq_1, wpx_of k8_3.eq_1, wpx_of k8_4.eq_1, wpx_of k8_5.eq_1, wpx_of k8_6.eq_1, wpx_of k8_7.eq_1, stV, slotsO, thingsO, Nat.add_assoc, c0, c1, c2, c3, c4, c5, hl, hs, Int.cast_ofNat_Int, go_sem]); repeat' ((first
    | refine And.intro (Or.inr rfl) ?_
    | ((first | refine cB ?_ ?_ | refine gT ?_ ?_ | refine gF ?_ ?_ | refine dT ?_ ?_ | refine dF ?_ ?_) <;> intro hc)
    | refine awake16_spec ?_
    | refine first16_spec ?_
    | refine way16_spec (by first | exact at0 | exact at1 | exact at2 | exact at3 | exact at4 | exact at5 | exact at6 | exact at7 | exact at8 | exact at9 | exact at10 | exact at11 | exact at12 | exact at13 | exact at14 | exact at15 | exact at16 | exact atX rfl) ?_
    | refine DoSpec.som give_Do_spec (c := ⟨3, [1], [2], 7, b, 0⟩) g1 (by first | exact at0 | exact at1 | exact at2 | exact at3 | exact at4 | exact at5 | exact at6 | exact at7 | exact at8 | exact at9 | exact at10 | exact at11 | exact at12 | exact at13 | exact at14 | exact at15 | exact at16 | exact atX rfl) (by first | exact at0 | exact at1 | exact at2 | exact at3 | exact at4 | exact at5 | exact at6 | exact at7 | exact at8 | exact at9 | exact at10 | exact at11 | exact at12 | exact at13 | exact at14 | exact at15 | exact at16 | exact atX rfl) (by first | exact at0 | exact at1 | exact at2 | exact at3 | exact at4 | exact at5 | exact at6 | exact at7 | exact at8 | exact at9 | exact at10 | exact at11 | exact at12 | exact at13 | exact at14 | exact at15 | exact at16 | exact atX rfl) (by first | exact at0 | exact at1 | exact at2 | exact at3 | exact at4 | exact at5 | exact at6 | exact at7 | exact at8 | exact at9 | exact at10 | exact at11 | exact at12 | exact at13 | exact at14 | exact at15 | exact at16 | exact atX rfl) ?_
    | refine DoSpec.som give_Do_spec (c := ⟨2, [2], [3], r, 0, 0⟩) g2 (by first | exact at0 | exact at1 | exact at2 | exact at3 | exact at4 | exact at5 | exact at6 | exact at7 | exact at8 | exact at9 | exact at10 | exact at11 | exact at12 | exact at13 | exact at14 | exact at15 | exact at16 | exact atX rfl) (by first | exact at0 | exact at1 | exact at2 | exact at3 | exact at4 | exact at5 | exact at6 | exact at7 | exact at8 | exact at9 | exact at10 | exact at11 | exact at12 | exact at13 | exact at14 | exact at15 | exact at16 | exact atX rfl) (by first | exact at0 | exact at1 | exact at2 | exact at3 | exact at4 | exact at5 | exact at6 | exact at7 | exact at8 | exact at9 | exact at10 | exact at11 | exact at12 | exact at13 | exact at14 | exact at15 | exact at16 | exact atX rfl) (by first | exact at0 | exact at1 | exact at2 | exact at3 | exact at4 | exact at5 | exact at6 | exact at7 | exact at8 | exact at9 | exact at10 | exact at11 | exact at12 | exact at13 | exact at14 | exact at15 | exact at16 | exact atX rfl) ?_
    | refine DoSpec.non give_Do_spec (c := ⟨3, [3], [4], 7, o, 0⟩) g3 (by first | exact at0 | exact at1 | exact at2 | exact at3 | exact at4 | exact at5 | exact at6 | exact at7 | exact at8 | exact at9 | exact at10 | exact at11 | exact at12 | exact at13 | exact at14 | exact at15 | exact at16 | exact atX rfl) (by first | exact at0 | exact at1 | exact at2 | exact at3 | exact at4 | exact at5 | exact at6 | exact at7 | exact at8 | exact at9 | exact at10 | exact at11 | exact at12 | exact at13 | exact at14 | exact at15 | exact at16 | exact atX rfl) (by first | exact at0 | exact at1 | exact at2 | exact at3 | exact at4 | exact at5 | exact at6 | exact at7 | exact at8 | exact at9 | exact at10 | exact at11 | exact at12 | exact at13 | exact at14 | exact at15 | exact at16 | exact atX rfl) (by first | exact at0 | exact at1 | exact at2 | exact at3 | exact at4 | exact at5 | exact at6 | exact at7 | exact at8 | exact at9 | exact at10 | exact at11 | exact at12 | exact at13 | exact at14 | exact at15 | exact at16 | exact atX rfl) ?_) <;> try simp only [*, wpx_of k8_0.eq_1, wpx_of k8_1.eq_1, wpx_of k8_2.eq_1, wpx_of k8_3.eq_1, wpx_of k8_4.eq_1, wpx_of k8_5.eq_1, wpx_of k8_6.eq_1, wpx_of k8_7.eq_1, stV, slotsO, thingsO, Nat.add_assoc, c0, c1, c2, c3, c4, c5, hl, hs, Int.cast_ofNat_Int, go_sem])
  · refine ACalls.into ok8 (Nat.le_of_ble_eq_true rfl) ?_; (try simp only [c8, wpx_of k8_0.eq_1, wpx_of k8_1.eq_1, wpx_of k8_2.eq_1, wpx_of k8_3.eq_1, wpx_of k8_4.eq_1, wpx_of k8_5.eq_1, wpx_of k8_6.eq_1, wpx_of k8_7.eq_1, go_sem]); repeat' ((first
    | refine And.intro (Or.inr rfl) ?_
    | ((first | refine cB ?_ ?_ | refine gT ?_ ?_ | refine gF ?_ ?_ | refine dT ?_ ?_ | refine dF ?_ ?_) <;> intro hc)
    | refine awake16_spec ?_) <;> try simp only [*, wpx_of k8_0.eq_1, wpx_of k8_1.eq_1, wpx_of k8_2.eq_1, wpx_of k8_3.eq_1, wpx_of k8_4.eq_1, wpx_of k8_5.eq_1, wpx_of k8_6.eq_1, wpx_of k8_7.eq_1, go_sem])
    all_goals exact absurd ⟨by omega, by omega, by omega, by omega, by omega, by omega⟩ hb
end
end Go.Proofs.Ytipigjckoejfpaa.Ax
