/- Mail: what the program's functions answer. Conditions: none. -/
import Derived.Test.YtipigjckoejfpaaGreatSGiveZ
set_option linter.unusedSimpArgs false
set_option linter.unusedVariables false
namespace Go.Proofs.YtipigjckoejfpaaGreat.Ax
open Go Go.Ax Go.Ax.M
set_option linter.unusedSimpArgs false
set_option linter.unusedVariables false
section
variable {H : Heap} {K : AVal → Heap → Prop} {s : State} {oS oT : Nat} {fS fT rS rT : Bool} {c : M.Call} {oA oB : Nat} {fA fB rA rB : Bool}

theorem mail_send_spec {th q : Int} {box : Cap} (hS : H[oS]? = some (.arr 5 (s.slots.map Slot.cells) rS)) (hT : H[oT]? = some (.arr 13 (s.things.map Thing.cells) rT)) (hA : H[oA]? = some (.arr 1 (ints c.a) rA)) (hB : H[oB]? = some (.arr 1 (ints c.b) rB))
    (ok : StOk s) (hbx : sThere s box.th = true)
    (h : (sendM s th c box).st = none → K (.tup [.agg [.int .i64 s.geo.threads, .int .i64 s.geo.slots, .int .i64 s.geo.things, .slice oS s.slots.length 0 s.slots.length fS, .slice oT s.things.length 0 s.things.length fT], (sendM s th c box).reply]) H)
    (h' : ∀ s', (sendM s th c box).st = some s' → K (.tup [stV s' H.length (H.length + 1) false false, (sendM s th c box).reply]) (H ++ [slotsO s', thingsO s'])) :
    ACalls Tryz.prog 105 [.agg [.int .i64 s.geo.threads, .int .i64 s.geo.slots, .int .i64 s.geo.things, .slice oS s.slots.length 0 s.slots.length fS, .slice oT s.things.length 0 s.things.length fT], .int .i64 th, .agg [.int .i64 q, .slice oA c.a.length 0 c.a.length fA, .slice oB c.b.length 0 c.b.length fB, .int .i64 c.x, .int .i64 c.y, .int .u64 c.w], .agg box.cells] H K := by
  have kT := Keeps.of hT
  have kS := Keeps.of hS
  have kB := Keeps.of hB
  have hg := there_get hbx
  have key : ∀ e, sendM s th c box = .bad e → K (.tup [.agg [.int .i64 s.geo.threads, .int .i64 s.geo.slots, .int .i64 s.geo.things, .slice oS s.slots.length 0 s.slots.length fS, .slice oT s.things.length 0 s.things.length fT], .agg [.int .i64 e, .int .u64 0, .int .i64 0]]) H := fun e he => by rw [he] at h; exact h rfl
  have hv := fun e => show (AVal.tup [.agg [.int .i64 s.geo.threads, .int .i64 s.geo.slots, .int .i64 s.geo.things, .slice oS s.slots.length 0 s.slots.length fS, .slice oT s.things.length 0 s.things.length fT], .agg [.int .i64 e, .int .u64 0, .int .i64 0]]).refs (fun o => o < H.length) by simp [AVal.refs, refsL]; exact ⟨get_lt hS, get_lt hT⟩
  clear h
  have hwf : (fCap s th c.b).2.2 = 0 → IntKind.wrap .i64 ((fCap s th c.b).1 + 1) = (fCap s th c.b).1 + 1 := fun h => by have := fCap_lt h; have := ok.lS; exact w64 (by omega) (by omega)
  refine ACalls.gc ?_
  unfold Cap.cells
  refine ACalls.into ok105 (Nat.le_of_ble_eq_true rfl) ?_; (try simp only [c105, wpx_of k105_0.eq_1, wpx_of k105_1.eq_1, wpx_of k105_2.eq_1, wpx_of k105_3.eq_1, wpx_of k105_4.eq_1, wpx_of k105_5.eq_1, wpx_of k105_6.eq_1, wpx_of k105_7.eq_1, wpx_of k105_8.eq_1, wpx_of k105_9.eq_1, wpx_of k105_10.eq_1, wpx_of k105_11.eq_1, wpx_of k105_12.eq_1, kS, kT, kB, hg, stV, slotsO, thingsO, List.length_set, Cap.cells, Nat.add_assoc, go_sem]); repeat' ((first
    | refine And.intro (Or.inr rfl) ?_
    | ((first | refine cB ?_ ?_ | refine gT ?_ ?_ | refine gF ?_ ?_ | refine dT ?_ ?_ | refine dF ?_ ?_) <;> intro hc)
    | refine right_Within_spec ?_
    | refine find_Cap_spec (kS _) (kT _) (kB _) ?_
    | refine state_Clone_spec (kS _) (kT _) (lS_of ok.good) (lT_of ok.good) (lS0_of ok.good) (lT0_of ok.good) ?_) <;> try simp only [*, wpx_of k105_0.eq_1, wpx_of k105_1.eq_1, wpx_of k105_2.eq_1, wpx_of k105_3.eq_1, wpx_of k105_4.eq_1, wpx_of k105_5.eq_1, wpx_of k105_6.eq_1, wpx_of k105_7.eq_1, wpx_of k105_8.eq_1, wpx_of k105_9.eq_1, wpx_of k105_10.eq_1, wpx_of k105_11.eq_1, wpx_of k105_12.eq_1, kS, kT, kB, hg, stV, slotsO, thingsO, List.length_set, Cap.cells, Nat.add_assoc, go_sem])
  case' refine_1.refine_2.refine_2.refine_2.refine_2 =>
    have e : sendM s th c box = ⟨0, 0, 0, some (boxed s box.th (mailT ((fCap s th c.b).1 + 1) box.ba c.w))⟩ := by (first | (simp only [sendM, sendIn, *, cond_true, cond_false, Bool.and_true, Bool.true_and, Bool.and_false, Bool.false_and, Bool.or_true, Bool.true_or, Bool.or_false, Bool.false_or, Bool.not_true, Bool.not_false, decide_true, decide_false, go_sem]; done) | (simp_all [sendM, sendIn]; done) | (simp_all [sendM, sendIn]; omega) | grind [sendM, sendIn])
    rw [e] at h'
    have h' := h' _ rfl
    have el : (boxed s box.th (mailT ((fCap s th c.b).1 + 1) box.ba c.w)).things.length = s.things.length := by simp [boxed]
    rw [← el]
    exact Gc.stateT (s := boxed s box.th (mailT ((fCap s th c.b).1 + 1) box.ba c.w)) (i := 6) (j := 7) rfl (by simp only [thingsO, boxed, ← things_set]; rfl) (by decide) (by simp [AVal.plain, plains]) h'
  case' refine_2.refine_2 =>
    have e : sendM s th c box = ⟨0, 0, 0, some (boxed s box.th (mailT 0 box.ba c.w))⟩ := by (first | (simp only [sendM, sendIn, *, cond_true, cond_false, Bool.and_true, Bool.true_and, Bool.and_false, Bool.false_and, Bool.or_true, Bool.true_or, Bool.or_false, Bool.false_or, Bool.not_true, Bool.not_false, decide_true, decide_false, go_sem]; done) | (simp_all [sendM, sendIn]; done) | (simp_all [sendM, sendIn]; omega) | grind [sendM, sendIn])
    rw [e] at h'
    have h' := h' _ rfl
    have el : (boxed s box.th (mailT 0 box.ba c.w)).things.length = s.things.length := by simp [boxed]
    rw [← el]
    exact Gc.stateT (s := boxed s box.th (mailT 0 box.ba c.w)) (i := 5) (j := 6) rfl (by simp only [thingsO, boxed, ← things_set]; rfl) (by decide) (by simp [AVal.plain, plains]) h'
  all_goals exact Gc.old (hv _) (key _ (by (first | (simp only [sendM, sendIn, *, cond_true, cond_false, Bool.and_true, Bool.true_and, Bool.and_false, Bool.false_and, Bool.or_true, Bool.true_or, Bool.or_false, Bool.false_or, Bool.not_true, Bool.not_false, decide_true, decide_false, go_sem]; done) | (simp_all [sendM, sendIn]; done) | (simp_all [sendM, sendIn]; omega) | grind [sendM, sendIn])))

theorem mail_recv_spec {th q : Int} {box : Cap} (hS : H[oS]? = some (.arr 5 (s.slots.map Slot.cells) rS)) (hT : H[oT]? = some (.arr 13 (s.things.map Thing.cells) rT)) (hA : H[oA]? = some (.arr 1 (ints c.a) rA)) (hB : H[oB]? = some (.arr 1 (ints c.b) rB))
    (ok : StOk s) (hbx : sThere s box.th = true)
    (h : (recvM s th c box).st = none → K (.tup [.agg [.int .i64 s.geo.threads, .int .i64 s.geo.slots, .int .i64 s.geo.things, .slice oS s.slots.length 0 s.slots.length fS, .slice oT s.things.length 0 s.things.length fT], (recvM s th c box).reply]) H)
    (h' : ∀ s', (recvM s th c box).st = some s' → K (.tup [stV s' H.length (H.length + 1) false false, (recvM s th c box).reply]) (H ++ [slotsO s', thingsO s'])) :
    ACalls Tryz.prog 106 [.agg [.int .i64 s.geo.threads, .int .i64 s.geo.slots, .int .i64 s.geo.things, .slice oS s.slots.length 0 s.slots.length fS, .slice oT s.things.length 0 s.things.length fT], .int .i64 th, .agg [.int .i64 q, .slice oA c.a.length 0 c.a.length fA, .slice oB c.b.length 0 c.b.length fB, .int .i64 c.x, .int .i64 c.y, .int .u64 c.w], .agg box.cells] H K := by
  have kT := Keeps.of hT
  have kS := Keeps.of hS
  have kB := Keeps.of hB
  have hg := there_get hbx
  have hbx' : box.th.toNat < s.things.length := by have := hbx; simp [sThere] at this; omega
  have key : ∀ e, recvM s th c box = .bad e → K (.tup [.agg [.int .i64 s.geo.threads, .int .i64 s.geo.slots, .int .i64 s.geo.things, .slice oS s.slots.length 0 s.slots.length fS, .slice oT s.things.length 0 s.things.length fT], .agg [.int .i64 e, .int .u64 0, .int .i64 0]]) H := fun e he => by rw [he] at h; exact h rfl
  have hv := fun e => show (AVal.tup [.agg [.int .i64 s.geo.threads, .int .i64 s.geo.slots, .int .i64 s.geo.things, .slice oS s.slots.length 0 s.slots.length fS, .slice oT s.things.length 0 s.things.length fT], .agg [.int .i64 e, .int .u64 0, .int .i64 0]]).refs (fun o => o < H.length) by simp [AVal.refs, refsL]; exact ⟨get_lt hS, get_lt hT⟩
  clear h
  have hf : 0 < (s.thing box.th.toNat).from_ → IntKind.wrap .i64 ((s.thing box.th.toNat).from_ - 1) = (s.thing box.th.toNat).from_ - 1 ∧ (0 ≤ (s.thing box.th.toNat).from_ - 1) = True ∧ ((s.thing box.th.toNat).from_ - 1 < (s.slots.length : Int)) = True := fun h => by
    have := (from_ok ok hbx' h).1
    have := ok.lS
    exact ⟨w64 (by omega) (by omega), eq_true (by omega), eq_true (by omega)⟩
  have hf2 : 0 < (s.thing box.th.toNat).from_ → _ := fun h => slots_get (s := s) (k := ((s.thing box.th.toNat).from_ - 1).toNat) (by have := (from_ok ok hbx' h).1; omega)
  refine ACalls.gc ?_
  unfold Cap.cells
  refine ACalls.into ok106 (Nat.le_of_ble_eq_true rfl) ?_; (try simp only [c106, wpx_of k106_0.eq_1, wpx_of k106_1.eq_1, wpx_of k106_2.eq_1, wpx_of k106_3.eq_1, wpx_of k106_4.eq_1, wpx_of k106_5.eq_1, wpx_of k106_6.eq_1, wpx_of k106_7.eq_1, wpx_of k106_8.eq_1, wpx_of k106_9.eq_1, wpx_of k106_10.eq_1, wpx_of k106_11.eq_1, wpx_of k106_12.eq_1, kS, kT, kB, hg, hf, hf2, putS_things, putS_geo, putS_len, stV, slotsO, thingsO, List.length_set, Cap.cells, Nat.add_assoc, go_sem]); repeat' ((first
    | refine And.intro (Or.inr rfl) ?_
    | ((first | refine cB ?_ ?_ | refine gT ?_ ?_ | refine gF ?_ ?_ | refine dT ?_ ?_ | refine dF ?_ ?_) <;> intro hc)
    | refine find_Empty_spec (kS _) (kT _) (kB _) ?_
    | refine state_Clone_spec (kS _) (kT _) (lS_of ok.good) (lT_of ok.good) (lS0_of ok.good) (lT0_of ok.good) ?_
    | refine give_Put_x (kS _) (kT _) (fun hc => ?_) (fun hc => ?_)) <;> try simp only [*, wpx_of k106_0.eq_1, wpx_of k106_1.eq_1, wpx_of k106_2.eq_1, wpx_of k106_3.eq_1, wpx_of k106_4.eq_1, wpx_of k106_5.eq_1, wpx_of k106_6.eq_1, wpx_of k106_7.eq_1, wpx_of k106_8.eq_1, wpx_of k106_9.eq_1, wpx_of k106_10.eq_1, wpx_of k106_11.eq_1, wpx_of k106_12.eq_1, kS, kT, kB, hg, hf, hf2, putS_things, putS_geo, putS_len, stV, slotsO, thingsO, List.length_set, Cap.cells, Nat.add_assoc, go_sem])
  case' refine_2.refine_1.refine_1.refine_2.refine_2 =>
    have e : recvM s th c box = recvIn s (putS s ((s.thing box.th.toNat).from_ - 1) (fEmpty s th c.b).1 (s.slot ((s.thing box.th.toNat).from_ - 1).toNat).cap) box := by (first | (simp only [recvM, *, cond_true, cond_false, Bool.and_true, Bool.true_and, Bool.and_false, Bool.false_and, Bool.or_true, Bool.true_or, Bool.or_false, Bool.false_or, Bool.not_true, Bool.not_false, decide_true, decide_false, go_sem]; done) | (simp_all [recvM]; done) | (simp_all [recvM]; omega) | grind [recvM])
    rw [e] at h'
    have h' := h' _ rfl
    have el : (boxed (putS s ((s.thing box.th.toNat).from_ - 1) (fEmpty s th c.b).1 (s.slot ((s.thing box.th.toNat).from_ - 1).toNat).cap) box.th mail0).things.length = s.things.length := by simp [boxed, putS_things]
    have el2 : (boxed (putS s ((s.thing box.th.toNat).from_ - 1) (fEmpty s th c.b).1 (s.slot ((s.thing box.th.toNat).from_ - 1).toNat).cap) box.th mail0).slots.length = s.slots.length := by simp [boxed, putS_len]
    rw [← el, ← el2]
    exact Gc.stateT (s := boxed (putS s ((s.thing box.th.toNat).from_ - 1) (fEmpty s th c.b).1 (s.slot ((s.thing box.th.toNat).from_ - 1).toNat).cap) box.th mail0) (i := 9) (j := 10) rfl (by simp only [thingsO, boxed, ← things_set]; rfl) (by decide) (by simp [AVal.plain, plains]) h'
  case' refine_2.refine_1.refine_2 =>
    have e : recvM s th c box = recvIn s s box := by (first | (simp only [recvM, *, cond_true, cond_false, Bool.and_true, Bool.true_and, Bool.and_false, Bool.false_and, Bool.or_true, Bool.true_or, Bool.or_false, Bool.false_or, Bool.not_true, Bool.not_false, decide_true, decide_false, go_sem]; done) | (simp_all [recvM]; done) | (simp_all [recvM]; omega) | grind [recvM])
    rw [e] at h'
    have h' := h' _ rfl
    have el : (boxed s box.th mail0).things.length = s.things.length := by simp [boxed]
    rw [← el]
    exact Gc.stateT (s := boxed s box.th mail0) (i := 6) (j := 7) rfl (by simp only [thingsO, boxed, ← things_set]; rfl) (by decide) (by simp [AVal.plain, plains]) h'
  case' refine_2.refine_2 =>
    have e : recvM s th c box = recvIn s s box := by (first | (simp only [recvM, *, cond_true, cond_false, Bool.and_true, Bool.true_and, Bool.and_false, Bool.false_and, Bool.or_true, Bool.true_or, Bool.or_false, Bool.false_or, Bool.not_true, Bool.not_false, decide_true, decide_false, go_sem]; done) | (simp_all [recvM]; done) | (simp_all [recvM]; omega) | grind [recvM])
    rw [e] at h'
    have h' := h' _ rfl
    have el : (boxed s box.th mail0).things.length = s.things.length := by simp [boxed]
    rw [← el]
    exact Gc.stateT (s := boxed s box.th mail0) (i := 6) (j := 7) rfl (by simp only [thingsO, boxed, ← things_set]; rfl) (by decide) (by simp [AVal.plain, plains]) h'
  all_goals exact Gc.old (hv _) (key _ (by (first | (simp only [recvM, *, cond_true, cond_false, Bool.and_true, Bool.true_and, Bool.and_false, Bool.false_and, Bool.or_true, Bool.true_or, Bool.or_false, Bool.false_or, Bool.not_true, Bool.not_false, decide_true, decide_false, go_sem]; done) | (simp_all [recvM]; done) | (simp_all [recvM]; omega) | grind [recvM])))

theorem mail_send_x {th q x0 x1 x2 x3 : Int} (hS : H[oS]? = some (.arr 5 (s.slots.map Slot.cells) rS)) (hT : H[oT]? = some (.arr 13 (s.things.map Thing.cells) rT)) (hA : H[oA]? = some (.arr 1 (ints c.a) rA)) (hB : H[oB]? = some (.arr 1 (ints c.b) rB))
    (ok : StOk s) (hbx : sThere s x1 = true)
    (h : (sendM s th c ⟨x0, x1, x2, x3⟩).st = none → K (.tup [.agg [.int .i64 s.geo.threads, .int .i64 s.geo.slots, .int .i64 s.geo.things, .slice oS s.slots.length 0 s.slots.length fS, .slice oT s.things.length 0 s.things.length fT], (sendM s th c ⟨x0, x1, x2, x3⟩).reply]) H)
    (h' : ∀ s', (sendM s th c ⟨x0, x1, x2, x3⟩).st = some s' → K (.tup [stV s' H.length (H.length + 1) false false, (sendM s th c ⟨x0, x1, x2, x3⟩).reply]) (H ++ [slotsO s', thingsO s'])) :
    ACalls Tryz.prog 105 [.agg [.int .i64 s.geo.threads, .int .i64 s.geo.slots, .int .i64 s.geo.things, .slice oS s.slots.length 0 s.slots.length fS, .slice oT s.things.length 0 s.things.length fT], .int .i64 th, .agg [.int .i64 q, .slice oA c.a.length 0 c.a.length fA, .slice oB c.b.length 0 c.b.length fB, .int .i64 c.x, .int .i64 c.y, .int .u64 c.w], .agg [.int .i64 x0, .int .i64 x1, .int .i64 x2, .int .i64 x3]] H K := mail_send_spec (box := ⟨x0, x1, x2, x3⟩) hS hT hA hB ok hbx h h'
theorem mail_recv_x {th q x0 x1 x2 x3 : Int} (hS : H[oS]? = some (.arr 5 (s.slots.map Slot.cells) rS)) (hT : H[oT]? = some (.arr 13 (s.things.map Thing.cells) rT)) (hA : H[oA]? = some (.arr 1 (ints c.a) rA)) (hB : H[oB]? = some (.arr 1 (ints c.b) rB))
    (ok : StOk s) (hbx : sThere s x1 = true)
    (h : (recvM s th c ⟨x0, x1, x2, x3⟩).st = none → K (.tup [.agg [.int .i64 s.geo.threads, .int .i64 s.geo.slots, .int .i64 s.geo.things, .slice oS s.slots.length 0 s.slots.length fS, .slice oT s.things.length 0 s.things.length fT], (recvM s th c ⟨x0, x1, x2, x3⟩).reply]) H)
    (h' : ∀ s', (recvM s th c ⟨x0, x1, x2, x3⟩).st = some s' → K (.tup [stV s' H.length (H.length + 1) false false, (recvM s th c ⟨x0, x1, x2, x3⟩).reply]) (H ++ [slotsO s', thingsO s'])) :
    ACalls Tryz.prog 106 [.agg [.int .i64 s.geo.threads, .int .i64 s.geo.slots, .int .i64 s.geo.things, .slice oS s.slots.length 0 s.slots.length fS, .slice oT s.things.length 0 s.things.length fT], .int .i64 th, .agg [.int .i64 q, .slice oA c.a.length 0 c.a.length fA, .slice oB c.b.length 0 c.b.length fB, .int .i64 c.x, .int .i64 c.y, .int .u64 c.w], .agg [.int .i64 x0, .int .i64 x1, .int .i64 x2, .int .i64 x3]] H K := mail_recv_spec (box := ⟨x0, x1, x2, x3⟩) hS hT hA hB ok hbx h h'

theorem mail_Do_spec {th : Int} (hS : H[oS]? = some (.arr 5 (s.slots.map Slot.cells) rS)) (hT : H[oT]? = some (.arr 13 (s.things.map Thing.cells) rT)) (hA : H[oA]? = some (.arr 1 (ints c.a) rA)) (hB : H[oB]? = some (.arr 1 (ints c.b) rB))
    (h : (mailM s th c).st = none → K (.tup [.agg [.int .i64 s.geo.threads, .int .i64 s.geo.slots, .int .i64 s.geo.things, .slice oS s.slots.length 0 s.slots.length fS, .slice oT s.things.length 0 s.things.length fT], (mailM s th c).reply]) H)
    (h' : ∀ s', (mailM s th c).st = some s' → K (.tup [stV s' H.length (H.length + 1) false false, (mailM s th c).reply]) (H ++ [slotsO s', thingsO s'])) :
    ACalls Tryz.prog 28 [.agg [.int .i64 s.geo.threads, .int .i64 s.geo.slots, .int .i64 s.geo.things, .slice oS s.slots.length 0 s.slots.length fS, .slice oT s.things.length 0 s.things.length fT], .int .i64 th, .agg [.int .i64 c.op, .slice oA c.a.length 0 c.a.length fA, .slice oB c.b.length 0 c.b.length fB, .int .i64 c.x, .int .i64 c.y, .int .u64 c.w]] H K := by
  have kT := Keeps.of hT
  have kS := Keeps.of hS
  have kA := Keeps.of hA
  have kB := Keeps.of hB
  have key : ∀ e, mailM s th c = .bad e → K (.tup [.agg [.int .i64 s.geo.threads, .int .i64 s.geo.slots, .int .i64 s.geo.things, .slice oS s.slots.length 0 s.slots.length fS, .slice oT s.things.length 0 s.things.length fT], .agg [.int .i64 e, .int .u64 0, .int .i64 0]]) H := fun e he => by rw [he] at h; exact h rfl
  have hv := fun e w n => show (AVal.tup [.agg [.int .i64 s.geo.threads, .int .i64 s.geo.slots, .int .i64 s.geo.things, .slice oS s.slots.length 0 s.slots.length fS, .slice oT s.things.length 0 s.things.length fT], .agg [.int .i64 e, .int .u64 w, .int .i64 n]]).refs (fun o => o < H.length) by simp [AVal.refs, refsL]; exact ⟨get_lt hS, get_lt hT⟩
  refine ACalls.gc ?_
  refine ACalls.into ok28 (Nat.le_of_ble_eq_true rfl) ?_; (try simp only [c28, wpx_of k28_0.eq_1, wpx_of k28_1.eq_1, wpx_of k28_2.eq_1, wpx_of k28_3.eq_1, wpx_of k28_4.eq_1, wpx_of k28_5.eq_1, wpx_of k28_6.eq_1, wpx_of k28_7.eq_1, wpx_of k28_8.eq_1, wpx_of k28_9.eq_1, wpx_of k28_10.eq_1, wpx_of k28_11.eq_1, wpx_of k28_12.eq_1, stV, slotsO, thingsO, List.length_set, Cap.cells, Nat.add_assoc, Res.reply, go_sem]); repeat' ((first
    | refine And.intro (Or.inr rfl) ?_
    | ((first | refine cB ?_ ?_ | refine gT ?_ ?_ | refine gF ?_ ?_ | refine dT ?_ ?_ | refine dF ?_ ?_) <;> intro hc)
    | refine call_Good_spec (kA _) (kB _) ?_
    | refine find_Cap_spec (kS _) (kT _) (kA _) ?_
    | refine right_Within_spec ?_
    | refine mail_send_x (kS _) (kT _) (kA _) (kB _) (fCap_lt (by assumption)).2.2.1 (fCap_there (by assumption)) (fun hc => ?_) (fun s' hc => ?_)
    | refine mail_recv_x (kS _) (kT _) (kA _) (kB _) (fCap_lt (by assumption)).2.2.1 (fCap_there (by assumption)) (fun hc => ?_) (fun s' hc => ?_)) <;> try simp only [*, wpx_of k28_0.eq_1, wpx_of k28_1.eq_1, wpx_of k28_2.eq_1, wpx_of k28_3.eq_1, wpx_of k28_4.eq_1, wpx_of k28_5.eq_1, wpx_of k28_6.eq_1, wpx_of k28_7.eq_1, wpx_of k28_8.eq_1, wpx_of k28_9.eq_1, wpx_of k28_10.eq_1, wpx_of k28_11.eq_1, wpx_of k28_12.eq_1, stV, slotsO, thingsO, List.length_set, Cap.cells, Nat.add_assoc, Res.reply, go_sem])
  all_goals try exact Gc.old (hv _ _ _) (key _ (by (first | (simp only [mailM, *, cond_true, cond_false, Bool.and_true, Bool.true_and, Bool.and_false, Bool.false_and, Bool.or_true, Bool.true_or, Bool.or_false, Bool.false_or, Bool.not_true, Bool.not_false, decide_true, decide_false, go_sem]; done) | (simp_all [mailM]; done) | (simp_all [mailM]; omega) | grind [mailM])))
  all_goals
    have eb : (⟨3, (fCap s th c.a).2.1.th, (fCap s th c.a).2.1.ri, (fCap s th c.a).2.1.ba⟩ : Cap) = (fCap s th c.a).2.1 := by
      have ht : (fCap s th c.a).2.1.ty = 3 := by assumption
      rw [← ht]
  case' refine_1.refine_1.refine_2.refine_2.refine_2.refine_2.refine_1 =>
    have e : mailM s th c = recvM s th c ⟨3, (fCap s th c.a).2.1.th, (fCap s th c.a).2.1.ri, (fCap s th c.a).2.1.ba⟩ := by rw [eb]; clear eb h h' key; (first | (simp only [mailM, *, cond_true, cond_false, Bool.and_true, Bool.true_and, Bool.and_false, Bool.false_and, Bool.or_true, Bool.true_or, Bool.or_false, Bool.false_or, Bool.not_true, Bool.not_false, decide_true, decide_false, go_sem]; done) | (simp_all [mailM]; done) | (simp_all [mailM]; omega) | grind [mailM])
    rw [e] at h
    exact Gc.old (hv _ _ _) (h (by assumption))
  case' refine_1.refine_2.refine_2.refine_2.refine_2.refine_1 =>
    have e : mailM s th c = sendM s th c ⟨3, (fCap s th c.a).2.1.th, (fCap s th c.a).2.1.ri, (fCap s th c.a).2.1.ba⟩ := by rw [eb]; clear eb h h' key; (first | (simp only [mailM, *, cond_true, cond_false, Bool.and_true, Bool.true_and, Bool.and_false, Bool.false_and, Bool.or_true, Bool.true_or, Bool.or_false, Bool.false_or, Bool.not_true, Bool.not_false, decide_true, decide_false, go_sem]; done) | (simp_all [mailM]; done) | (simp_all [mailM]; omega) | grind [mailM])
    rw [e] at h
    exact Gc.old (hv _ _ _) (h (by assumption))
  case' refine_1.refine_1.refine_2.refine_2.refine_2.refine_2.refine_2 =>
    have e : mailM s th c = recvM s th c ⟨3, (fCap s th c.a).2.1.th, (fCap s th c.a).2.1.ri, (fCap s th c.a).2.1.ba⟩ := by rw [eb]; clear eb h h' key; (first | (simp only [mailM, *, cond_true, cond_false, Bool.and_true, Bool.true_and, Bool.and_false, Bool.false_and, Bool.or_true, Bool.true_or, Bool.or_false, Bool.false_or, Bool.not_true, Bool.not_false, decide_true, decide_false, go_sem]; done) | (simp_all [mailM]; done) | (simp_all [mailM]; omega) | grind [mailM])
  case' refine_1.refine_2.refine_2.refine_2.refine_2.refine_2 =>
    have e : mailM s th c = sendM s th c ⟨3, (fCap s th c.a).2.1.th, (fCap s th c.a).2.1.ri, (fCap s th c.a).2.1.ba⟩ := by rw [eb]; clear eb h h' key; (first | (simp only [mailM, *, cond_true, cond_false, Bool.and_true, Bool.true_and, Bool.and_false, Bool.false_and, Bool.or_true, Bool.true_or, Bool.or_false, Bool.false_or, Bool.not_true, Bool.not_false, decide_true, decide_false, go_sem]; done) | (simp_all [mailM]; done) | (simp_all [mailM]; omega) | grind [mailM])
  all_goals
    rw [e] at h'
    exact Gc.stateT (i := 5) (j := 6) rfl rfl (by decide) (by simp [AVal.plain, plains]) (h' _ (by assumption))

theorem mail_Do_some {th e w n : Int} {s' : State} (hr : mailM s th c = ⟨e, w, n, some s'⟩) (hS : H[oS]? = some (.arr 5 (s.slots.map Slot.cells) rS)) (hT : H[oT]? = some (.arr 13 (s.things.map Thing.cells) rT)) (hA : H[oA]? = some (.arr 1 (ints c.a) rA)) (hB : H[oB]? = some (.arr 1 (ints c.b) rB))
    (h : K (.tup [stV s' H.length (H.length + 1) false false, .agg [.int .i64 e, .int .u64 w, .int .i64 n]]) (H ++ [slotsO s', thingsO s'])) : ACalls Tryz.prog 28 [.agg [.int .i64 s.geo.threads, .int .i64 s.geo.slots, .int .i64 s.geo.things, .slice oS s.slots.length 0 s.slots.length fS, .slice oT s.things.length 0 s.things.length fT], .int .i64 th, .agg [.int .i64 c.op, .slice oA c.a.length 0 c.a.length fA, .slice oB c.b.length 0 c.b.length fB, .int .i64 c.x, .int .i64 c.y, .int .u64 c.w]] H K :=
  mail_Do_spec hS hT hA hB (by rw [hr]; intro h; cases h) (by rw [hr]; intro s2 h2; injection h2 with h2; subst h2; exact h)
end
end Go.Proofs.YtipigjckoejfpaaGreat.Ax
