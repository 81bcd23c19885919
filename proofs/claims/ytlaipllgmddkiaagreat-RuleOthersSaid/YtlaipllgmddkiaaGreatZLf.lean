/- Texts put behind one another: SMail, SLeaf, SDepth, STag, SCapW, SLeafT, SBell, SCarve. Conditions: none. -/
import Derived.Test.YtlaipllgmddkiaaGreatZGv
import Derived.Test.YtlaipllgmddkiaaGreatZPu
import Derived.Test.YtlaipllgmddkiaaGreatSBaseZ
import Derived.Test.YtlaipllgmddkiaaGreatSLoopZ
import Derived.Test.YtlaipllgmddkiaaGreatZMo
set_option linter.all false
namespace Go.Proofs.YtlaipllgmddkiaaGreat.Ax
open Go Go.Ax Go.Ax.M
section
variable {H : Heap} {K : AVal → Heap → Prop} {s : State} {oS oT : Nat} {fS fT rS rT : Bool} {c : M.Call} {oA oB : Nat} {fA fB rA rB : Bool}
theorem mail_send_spec {th q : Int} {box : Cap} (hS : H[oS]? = some (.arr 5 (s.slots.map Slot.cells) rS)) (hT : H[oT]? = some (.arr 13 (s.things.map Thing.cells) rT)) (hA : H[oA]? = some (.arr 1 (ints c.a) rA)) (hB : H[oB]? = some (.arr 1 (ints c.b) rB))
 (ok : StOk s) (hbx : sThere s box.th = true)
 (h : (sendM s th c box).st = none → K (.tup [stA s oS oT fS fT, (sendM s th c box).reply]) H)
 (h' : ∀ s', (sendM s th c box).st = some s' → K (.tup [stV s' H.length (H.length + 1) false false, (sendM s th c box).reply]) (H ++ [slotsO s', thingsO s'])) :
 ACalls Tryz.prog 81 [stA s oS oT fS fT, .int .i64 th, .agg [.int .i64 q, .slice oA c.a.length 0 c.a.length fA, .slice oB c.b.length 0 c.b.length fB, .int .i64 c.x, .int .i64 c.y, .int .u64 c.w], .agg box.cells] H K := by
 have kT := Keeps.of hT
 have kS := Keeps.of hS
 have kB := Keeps.of hB
 have hg := there_get hbx
 have key : ∀ e, sendM s th c box = .bad e → K (.tup [stA s oS oT fS fT, .agg [.int .i64 e, .int .u64 0, .int .i64 0]]) H := fun e he => by rw [he] at h; exact h rfl
 have hv := fun e => show (AVal.tup [stA s oS oT fS fT, .agg [.int .i64 e, .int .u64 0, .int .i64 0]]).refs (fun o => o < H.length) by simp [AVal.refs, refsL]; exact ⟨get_lt hS, get_lt hT⟩
 clear h
 have hwf : (fCap s th c.b).2.2 = 0 → IntKind.wrap .i64 ((fCap s th c.b).1 + 1) = (fCap s th c.b).1 + 1 := fun h => by have := fCap_lt h; have := ok.lS; exact w64 (by omega) (by omega)
 refine ACalls.gc ?_
 unfold Cap.cells
 refine into ok81 ?_; (try simp only [c81, w81, kS, kT, kB, hg, stV, slotsO, thingsO, List.length_set, Cap.cells, Nat.add_assoc, go_sem]); repeat' ((first | refine orR ?_ | (refine sp ?_ ?_ <;> intro hc) | refine right_Within_spec ?_ | refine find_Cap_spec (kS _) (kT _) (kB _) ?_ | refine state_Clone_spec (kS _) (kT _) (lS_of ok.good) (lT_of ok.good) (lS0_of ok.good) (lT0_of ok.good) ?_) <;> try simp only [*, w81, kS, kT, kB, hg, stV, slotsO, thingsO, List.length_set, Cap.cells, Nat.add_assoc, go_sem])
 case' refine_1.refine_2.refine_2.refine_2.refine_2 =>
  have e : sendM s th c box = ⟨0, 0, 0, some (boxed s box.th (mailT ((fCap s th c.b).1 + 1) box.ba c.w))⟩ := by (first | (simp only [sendM, sendIn, *, bs, go_sem]; done) | (simp_all [sendM, sendIn]; done) | (simp_all [sendM, sendIn]; omega) | grind [sendM, sendIn])
  rw [e] at h'
  have h' := h' _ rfl
  have el : (boxed s box.th (mailT ((fCap s th c.b).1 + 1) box.ba c.w)).things.length = s.things.length := by simp [boxed]
  rw [← el]
  exact Gc.stateT (s := boxed s box.th (mailT ((fCap s th c.b).1 + 1) box.ba c.w)) (i := 6) (j := 7) rfl (by simp only [thingsO, boxed, ← things_set]; rfl) (by decide) (by simp [AVal.plain, plains]) h'
 case' refine_2.refine_2 =>
  have e : sendM s th c box = ⟨0, 0, 0, some (boxed s box.th (mailT 0 box.ba c.w))⟩ := by (first | (simp only [sendM, sendIn, *, bs, go_sem]; done) | (simp_all [sendM, sendIn]; done) | (simp_all [sendM, sendIn]; omega) | grind [sendM, sendIn])
  rw [e] at h'
  have h' := h' _ rfl
  have el : (boxed s box.th (mailT 0 box.ba c.w)).things.length = s.things.length := by simp [boxed]
  rw [← el]
  exact Gc.stateT (s := boxed s box.th (mailT 0 box.ba c.w)) (i := 5) (j := 6) rfl (by simp only [thingsO, boxed, ← things_set]; rfl) (by decide) (by simp [AVal.plain, plains]) h'
 all_goals exact Gc.old (hv _) (key _ (by (first | (simp only [sendM, sendIn, *, bs, go_sem]; done) | (simp_all [sendM, sendIn]; done) | (simp_all [sendM, sendIn]; omega) | grind [sendM, sendIn])))
theorem mail_recv_spec {th q : Int} {box : Cap} (hS : H[oS]? = some (.arr 5 (s.slots.map Slot.cells) rS)) (hT : H[oT]? = some (.arr 13 (s.things.map Thing.cells) rT)) (hA : H[oA]? = some (.arr 1 (ints c.a) rA)) (hB : H[oB]? = some (.arr 1 (ints c.b) rB))
 (ok : StOk s) (hbx : sThere s box.th = true)
 (h : (recvM s th c box).st = none → K (.tup [stA s oS oT fS fT, (recvM s th c box).reply]) H)
 (h' : ∀ s', (recvM s th c box).st = some s' → K (.tup [stV s' H.length (H.length + 1) false false, (recvM s th c box).reply]) (H ++ [slotsO s', thingsO s'])) :
 ACalls Tryz.prog 82 [stA s oS oT fS fT, .int .i64 th, .agg [.int .i64 q, .slice oA c.a.length 0 c.a.length fA, .slice oB c.b.length 0 c.b.length fB, .int .i64 c.x, .int .i64 c.y, .int .u64 c.w], .agg box.cells] H K := by
 have kT := Keeps.of hT
 have kS := Keeps.of hS
 have kB := Keeps.of hB
 have hg := there_get hbx
 have hbx' : box.th.toNat < s.things.length := by have := hbx; simp [sThere] at this; omega
 have key : ∀ e, recvM s th c box = .bad e → K (.tup [stA s oS oT fS fT, .agg [.int .i64 e, .int .u64 0, .int .i64 0]]) H := fun e he => by rw [he] at h; exact h rfl
 have hv := fun e => show (AVal.tup [stA s oS oT fS fT, .agg [.int .i64 e, .int .u64 0, .int .i64 0]]).refs (fun o => o < H.length) by simp [AVal.refs, refsL]; exact ⟨get_lt hS, get_lt hT⟩
 clear h
 have hf : 0 < (s.thing box.th.toNat).from_ → IntKind.wrap .i64 ((s.thing box.th.toNat).from_ - 1) = (s.thing box.th.toNat).from_ - 1 ∧ (0 ≤ (s.thing box.th.toNat).from_ - 1) = True ∧ ((s.thing box.th.toNat).from_ - 1 < (s.slots.length : Int)) = True := fun h => by
  have := (from_ok ok hbx' h).1
  have := ok.lS
  exact ⟨w64 (by omega) (by omega), eq_true (by omega), eq_true (by omega)⟩
 have hf2 : 0 < (s.thing box.th.toNat).from_ → _ := fun h => slots_get (s := s) (k := ((s.thing box.th.toNat).from_ - 1).toNat) (by have := (from_ok ok hbx' h).1; omega)
 refine ACalls.gc ?_
 unfold Cap.cells
 refine into ok82 ?_; (try simp only [c82, w82, kS, kT, kB, hg, hf, hf2, putS_things, putS_geo, putS_len, stV, slotsO, thingsO, List.length_set, Cap.cells, Nat.add_assoc, go_sem]); repeat' ((first | refine orR ?_ | (refine sp ?_ ?_ <;> intro hc) | refine find_Empty_spec (kS _) (kT _) (kB _) ?_ | refine state_Clone_spec (kS _) (kT _) (lS_of ok.good) (lT_of ok.good) (lS0_of ok.good) (lT0_of ok.good) ?_ | refine give_Put_x (kS _) (kT _) (fun hc => ?_) (fun hc => ?_)) <;> try simp only [*, w82, kS, kT, kB, hg, hf, hf2, putS_things, putS_geo, putS_len, stV, slotsO, thingsO, List.length_set, Cap.cells, Nat.add_assoc, go_sem])
 case' refine_2.refine_1.refine_1.refine_2.refine_2 =>
  have e : recvM s th c box = recvIn s (putS s ((s.thing box.th.toNat).from_ - 1) (fEmpty s th c.b).1 (s.slot ((s.thing box.th.toNat).from_ - 1).toNat).cap) box := by (first | (simp only [recvM, *, bs, go_sem]; done) | (simp_all [recvM]; done) | (simp_all [recvM]; omega) | grind [recvM])
  rw [e] at h'
  have h' := h' _ rfl
  have el : (boxed (putS s ((s.thing box.th.toNat).from_ - 1) (fEmpty s th c.b).1 (s.slot ((s.thing box.th.toNat).from_ - 1).toNat).cap) box.th mail0).things.length = s.things.length := by simp [boxed, putS_things]
  have el2 : (boxed (putS s ((s.thing box.th.toNat).from_ - 1) (fEmpty s th c.b).1 (s.slot ((s.thing box.th.toNat).from_ - 1).toNat).cap) box.th mail0).slots.length = s.slots.length := by simp [boxed, putS_len]
  rw [← el, ← el2]
  exact Gc.stateT (s := boxed (putS s ((s.thing box.th.toNat).from_ - 1) (fEmpty s th c.b).1 (s.slot ((s.thing box.th.toNat).from_ - 1).toNat).cap) box.th mail0) (i := 9) (j := 10) rfl (by simp only [thingsO, boxed, ← things_set]; rfl) (by decide) (by simp [AVal.plain, plains]) h'
 case' refine_2.refine_1.refine_2 =>
  have e : recvM s th c box = recvIn s s box := by (first | (simp only [recvM, *, bs, go_sem]; done) | (simp_all [recvM]; done) | (simp_all [recvM]; omega) | grind [recvM])
  rw [e] at h'
  have h' := h' _ rfl
  have el : (boxed s box.th mail0).things.length = s.things.length := by simp [boxed]
  rw [← el]
  exact Gc.stateT (s := boxed s box.th mail0) (i := 6) (j := 7) rfl (by simp only [thingsO, boxed, ← things_set]; rfl) (by decide) (by simp [AVal.plain, plains]) h'
 case' refine_2.refine_2 =>
  have e : recvM s th c box = recvIn s s box := by (first | (simp only [recvM, *, bs, go_sem]; done) | (simp_all [recvM]; done) | (simp_all [recvM]; omega) | grind [recvM])
  rw [e] at h'
  have h' := h' _ rfl
  have el : (boxed s box.th mail0).things.length = s.things.length := by simp [boxed]
  rw [← el]
  exact Gc.stateT (s := boxed s box.th mail0) (i := 6) (j := 7) rfl (by simp only [thingsO, boxed, ← things_set]; rfl) (by decide) (by simp [AVal.plain, plains]) h'
 all_goals exact Gc.old (hv _) (key _ (by (first | (simp only [recvM, *, bs, go_sem]; done) | (simp_all [recvM]; done) | (simp_all [recvM]; omega) | grind [recvM])))
theorem mail_send_x {th q x0 x1 x2 x3 : Int} (hS : H[oS]? = some (.arr 5 (s.slots.map Slot.cells) rS)) (hT : H[oT]? = some (.arr 13 (s.things.map Thing.cells) rT)) (hA : H[oA]? = some (.arr 1 (ints c.a) rA)) (hB : H[oB]? = some (.arr 1 (ints c.b) rB))
 (ok : StOk s) (hbx : sThere s x1 = true)
 (h : (sendM s th c ⟨x0, x1, x2, x3⟩).st = none → K (.tup [stA s oS oT fS fT, (sendM s th c ⟨x0, x1, x2, x3⟩).reply]) H)
 (h' : ∀ s', (sendM s th c ⟨x0, x1, x2, x3⟩).st = some s' → K (.tup [stV s' H.length (H.length + 1) false false, (sendM s th c ⟨x0, x1, x2, x3⟩).reply]) (H ++ [slotsO s', thingsO s'])) :
 ACalls Tryz.prog 81 [stA s oS oT fS fT, .int .i64 th, .agg [.int .i64 q, .slice oA c.a.length 0 c.a.length fA, .slice oB c.b.length 0 c.b.length fB, .int .i64 c.x, .int .i64 c.y, .int .u64 c.w], .agg [.int .i64 x0, .int .i64 x1, .int .i64 x2, .int .i64 x3]] H K := mail_send_spec (box := ⟨x0, x1, x2, x3⟩) hS hT hA hB ok hbx h h'
theorem mail_recv_x {th q x0 x1 x2 x3 : Int} (hS : H[oS]? = some (.arr 5 (s.slots.map Slot.cells) rS)) (hT : H[oT]? = some (.arr 13 (s.things.map Thing.cells) rT)) (hA : H[oA]? = some (.arr 1 (ints c.a) rA)) (hB : H[oB]? = some (.arr 1 (ints c.b) rB))
 (ok : StOk s) (hbx : sThere s x1 = true)
 (h : (recvM s th c ⟨x0, x1, x2, x3⟩).st = none → K (.tup [stA s oS oT fS fT, (recvM s th c ⟨x0, x1, x2, x3⟩).reply]) H)
 (h' : ∀ s', (recvM s th c ⟨x0, x1, x2, x3⟩).st = some s' → K (.tup [stV s' H.length (H.length + 1) false false, (recvM s th c ⟨x0, x1, x2, x3⟩).reply]) (H ++ [slotsO s', thingsO s'])) :
 ACalls Tryz.prog 82 [stA s oS oT fS fT, .int .i64 th, .agg [.int .i64 q, .slice oA c.a.length 0 c.a.length fA, .slice oB c.b.length 0 c.b.length fB, .int .i64 c.x, .int .i64 c.y, .int .u64 c.w], .agg [.int .i64 x0, .int .i64 x1, .int .i64 x2, .int .i64 x3]] H K := mail_recv_spec (box := ⟨x0, x1, x2, x3⟩) hS hT hA hB ok hbx h h'
theorem mail_Do_spec {th : Int} (hS : H[oS]? = some (.arr 5 (s.slots.map Slot.cells) rS)) (hT : H[oT]? = some (.arr 13 (s.things.map Thing.cells) rT)) (hA : H[oA]? = some (.arr 1 (ints c.a) rA)) (hB : H[oB]? = some (.arr 1 (ints c.b) rB))
 (h : (mailM s th c).st = none → K (.tup [stA s oS oT fS fT, (mailM s th c).reply]) H)
 (h' : ∀ s', (mailM s th c).st = some s' → K (.tup [stV s' H.length (H.length + 1) false false, (mailM s th c).reply]) (H ++ [slotsO s', thingsO s'])) :
 ACalls Tryz.prog 17 [stA s oS oT fS fT, .int .i64 th, .agg [.int .i64 c.op, .slice oA c.a.length 0 c.a.length fA, .slice oB c.b.length 0 c.b.length fB, .int .i64 c.x, .int .i64 c.y, .int .u64 c.w]] H K := by
 have kT := Keeps.of hT
 have kS := Keeps.of hS
 have kA := Keeps.of hA
 have kB := Keeps.of hB
 have key : ∀ e, mailM s th c = .bad e → K (.tup [stA s oS oT fS fT, .agg [.int .i64 e, .int .u64 0, .int .i64 0]]) H := fun e he => by rw [he] at h; exact h rfl
 have hv := fun e w n => show (AVal.tup [stA s oS oT fS fT, .agg [.int .i64 e, .int .u64 w, .int .i64 n]]).refs (fun o => o < H.length) by simp [AVal.refs, refsL]; exact ⟨get_lt hS, get_lt hT⟩
 refine ACalls.gc ?_
 refine into ok17 ?_; (try simp only [c17, w17, stV, slotsO, thingsO, List.length_set, Cap.cells, Nat.add_assoc, Res.reply, go_sem]); repeat' ((first | refine orR ?_ | (refine sp ?_ ?_ <;> intro hc) | refine call_Good_spec (kA _) (kB _) ?_ | refine find_Cap_spec (kS _) (kT _) (kA _) ?_ | refine right_Within_spec ?_ | refine mail_send_x (kS _) (kT _) (kA _) (kB _) (fCap_lt (by assumption)).2.2.1 (fCap_there (by assumption)) (fun hc => ?_) (fun s' hc => ?_) | refine mail_recv_x (kS _) (kT _) (kA _) (kB _) (fCap_lt (by assumption)).2.2.1 (fCap_there (by assumption)) (fun hc => ?_) (fun s' hc => ?_)) <;> try simp only [*, w17, stV, slotsO, thingsO, List.length_set, Cap.cells, Nat.add_assoc, Res.reply, go_sem])
 all_goals try exact Gc.old (hv _ _ _) (key _ (by (first | (simp only [mailM, *, bs, go_sem]; done) | (simp_all [mailM]; done) | (simp_all [mailM]; omega) | grind [mailM])))
 all_goals
  have eb : (⟨3, (fCap s th c.a).2.1.th, (fCap s th c.a).2.1.ri, (fCap s th c.a).2.1.ba⟩ : Cap) = (fCap s th c.a).2.1 := by
   have ht : (fCap s th c.a).2.1.ty = 3 := by assumption
   rw [← ht]
 case' refine_1.refine_1.refine_2.refine_2.refine_2.refine_2.refine_1 =>
  have e : mailM s th c = recvM s th c ⟨3, (fCap s th c.a).2.1.th, (fCap s th c.a).2.1.ri, (fCap s th c.a).2.1.ba⟩ := by rw [eb]; clear eb h h' key; (first | (simp only [mailM, *, bs, go_sem]; done) | (simp_all [mailM]; done) | (simp_all [mailM]; omega) | grind [mailM])
  rw [e] at h
  exact Gc.old (hv _ _ _) (h (by assumption))
 case' refine_1.refine_2.refine_2.refine_2.refine_2.refine_1 =>
  have e : mailM s th c = sendM s th c ⟨3, (fCap s th c.a).2.1.th, (fCap s th c.a).2.1.ri, (fCap s th c.a).2.1.ba⟩ := by rw [eb]; clear eb h h' key; (first | (simp only [mailM, *, bs, go_sem]; done) | (simp_all [mailM]; done) | (simp_all [mailM]; omega) | grind [mailM])
  rw [e] at h
  exact Gc.old (hv _ _ _) (h (by assumption))
 case' refine_1.refine_1.refine_2.refine_2.refine_2.refine_2.refine_2 =>
  have e : mailM s th c = recvM s th c ⟨3, (fCap s th c.a).2.1.th, (fCap s th c.a).2.1.ri, (fCap s th c.a).2.1.ba⟩ := by rw [eb]; clear eb h h' key; (first | (simp only [mailM, *, bs, go_sem]; done) | (simp_all [mailM]; done) | (simp_all [mailM]; omega) | grind [mailM])
 case' refine_1.refine_2.refine_2.refine_2.refine_2.refine_2 =>
  have e : mailM s th c = sendM s th c ⟨3, (fCap s th c.a).2.1.th, (fCap s th c.a).2.1.ri, (fCap s th c.a).2.1.ba⟩ := by rw [eb]; clear eb h h' key; (first | (simp only [mailM, *, bs, go_sem]; done) | (simp_all [mailM]; done) | (simp_all [mailM]; omega) | grind [mailM])
 all_goals
  rw [e] at h'
  exact Gc.stateT (i := 5) (j := 6) rfl rfl (by decide) (by simp [AVal.plain, plains]) (h' _ (by assumption))
end
end Go.Proofs.YtlaipllgmddkiaaGreat.Ax
namespace Go.Proofs.YtlaipllgmddkiaaGreat.Ax
open Go Go.Ax Go.Ax.M
section
variable {H : Heap} {K : AVal → Heap → Prop} {s : State} {th op x y w : Int} {a b : List Int} {oS oT oA oB : Nat} {fS fT rS rT fA fB rA rB : Bool}
theorem leaf_good {op x y w : Int} {a b : List Int} (ho : op = 11 ∨ op = 12) (h : callGood ⟨op, a, b, x, y, w⟩ = true) : x = 0 ∨ x = 1 ∨ x = 2 ∨ x = 3 := by
 simp only [callGood, Bool.and_eq_true] at h
 obtain ⟨-, h1, -, h2, -⟩ := h
 rcases ho with rfl | rfl <;> simp [cNumbers, inB] at h2 <;> omega
theorem leaf11 {x y w : Int} {a b : List Int} (h : callGood ⟨11, a, b, x, y, w⟩ = true) : leafM s th ⟨11, a, b, x, y, w⟩ =
 bif !decide ((fCap s th a).2.2 = 0) then .bad (fCap s th a).2.2 else bif !decide ((fCap s th a).2.1.ty = 5) then .bad 7 else bif !rWithin 2 (fCap s th a).2.1.ri then .bad 6
 else ⟨0, 0, 0, some (boxed s (fCap s th a).2.1.th (tSet (s.thing (fCap s th a).2.1.th.toNat) x w))⟩ := by
 simp only [leafM, h, show decide ((11 : Int) = 11) = true from rfl, show decide ((11 : Int) = 13) = false from rfl, show decide ((11 : Int) = 12) = false from rfl, Bool.not_true, Bool.false_and, Bool.or_self, cond_false]; rfl
theorem leaf12 {x y w : Int} {a b : List Int} (h : callGood ⟨12, a, b, x, y, w⟩ = true) : leafM s th ⟨12, a, b, x, y, w⟩ =
 bif !decide ((fCap s th a).2.2 = 0) then .bad (fCap s th a).2.2 else bif !decide ((fCap s th a).2.1.ty = 5) then .bad 7 else bif !rWithin 1 (fCap s th a).2.1.ri then .bad 6
 else ⟨0, tData (s.thing (fCap s th a).2.1.th.toNat) x, 0, none⟩ := by
 simp only [leafM, h, show decide ((12 : Int) = 11) = false from rfl, show decide ((12 : Int) = 13) = false from rfl, show decide ((12 : Int) = 12) = true from rfl, Bool.not_true, Bool.not_false, Bool.true_and, Bool.false_and, Bool.or_self, cond_false, cond_true]; rfl
set_option maxHeartbeats 8000000 in
theorem leaf_Do_spec (ho : op = 11 ∨ op = 12) (hS : H[oS]? = some (.arr 5 (s.slots.map Slot.cells) rS)) (hT : H[oT]? = some (.arr 13 (s.things.map Thing.cells) rT)) (hA : H[oA]? = some (.arr 1 (ints a) rA)) (hB : H[oB]? = some (.arr 1 (ints b) rB))
 (h : (leafM s th ⟨op, a, b, x, y, w⟩).st = none → K (.tup [stA s oS oT fS fT, (leafM s th ⟨op, a, b, x, y, w⟩).reply]) H)
 (h' : ∀ s', (leafM s th ⟨op, a, b, x, y, w⟩).st = some s' → K (.tup [stV s' H.length (H.length + 1) false false, (leafM s th ⟨op, a, b, x, y, w⟩).reply]) (H ++ [slotsO s', thingsO s'])) :
 ACalls Tryz.prog 44 [stA s oS oT fS fT, .int .i64 th, .agg [.int .i64 op, .slice oA a.length 0 a.length fA, .slice oB b.length 0 b.length fB, .int .i64 x, .int .i64 y, .int .u64 w]] H K := by
 have kT := Keeps.of hT
 have kS := Keeps.of hS
 have kA := Keeps.of hA
 have kB := Keeps.of hB
 have key : ∀ e v n : Int, leafM s th ⟨op, a, b, x, y, w⟩ = ⟨e, v, n, none⟩ → K (.tup [stA s oS oT fS fT, .agg [.int .i64 e, .int .u64 v, .int .i64 n]]) H := fun e v n he => by rw [he] at h; exact h rfl
 have hv := fun (e v n : Int) => show (AVal.tup [stA s oS oT fS fT, .agg [.int .i64 e, .int .u64 v, .int .i64 n]]).refs (fun o => o < H.length) by simp [AVal.refs, refsL]; exact ⟨get_lt hS, get_lt hT⟩
 clear h
 have hroom : (fCap s th a).2.2 = 0 → _ := fun h => there_get (fCap_there h)
 have hgood : (fCap s th a).2.2 = 0 → sGood s = true := fun h => (fCap_ok h).1.ok.good
 cases hcg : callGood ⟨op, a, b, x, y, w⟩ with
 | false =>
  refine ACalls.gc ?_
  refine into ok44 ?_; (try simp only [c44, w44, stV, slotsO, thingsO, Nat.add_assoc, hcg, go_sem]); repeat' ((first | refine orR ?_ | (refine sp ?_ ?_ <;> intro hc) | refine call_Good_spec (c := ⟨op, a, b, x, y, w⟩) (kA _) (kB _) ?_) <;> try simp only [*, w44, stV, slotsO, thingsO, Nat.add_assoc, hcg, go_sem])
  exact Gc.old (hv _ _ _) (key _ _ _ (by simp only [leafM, hcg, Bool.not_false, Bool.true_or, cond_true, Res.bad]))
 | true =>
 have hx := leaf_good ho hcg
 rcases ho with rfl | rfl
 all_goals rcases hx with rfl | rfl | rfl | rfl
 all_goals
  refine ACalls.gc ?_
  refine into ok44 ?_; (try simp only [c44, w44, stV, slotsO, thingsO, Nat.add_assoc, Cap.cells, hroom, hcg, List.length_set, go_sem]); repeat' ((first | refine orR ?_ | (refine sp ?_ ?_ <;> intro hc) | refine call_Good_spec (c := ⟨_, a, b, _, y, w⟩) (kA _) (kB _) ?_ | refine find_Cap_spec (kS _) (kT _) (kA _) ?_ | refine right_Within_spec ?_ | refine state_Clone_spec (kS _) (kT _) (lS_of (hgood (by assumption))) (lT_of (hgood (by assumption))) (lS0_of (hgood (by assumption))) (lT0_of (hgood (by assumption))) ?_) <;> try simp only [*, w44, stV, slotsO, thingsO, Nat.add_assoc, Cap.cells, hroom, hcg, List.length_set, go_sem])
 all_goals clear hroom hgood
 all_goals try exact Gc.old (hv _ _ _) (key _ _ _ (by first | rw [leaf11 hcg] | rw [leaf12 hcg]
                                                      simp [*, Res.bad, tData]))
 all_goals
  clear key
  rw [leaf11 hcg] at h'
  have h' := h' _ (by simp [*]; rfl)
  generalize ht : tSet (s.thing (fCap s th a).2.1.th.toNat) _ w = t at h'
  refine Gc.stN (s' := boxed s (fCap s th a).2.1.th t) (r := some (boxed s (fCap s th a).2.1.th t)) (i := 5) (j := 6) rfl (by rw [← ht]; simp only [thingsO, boxed, ← things_set, tSet]; rfl) (fun s' e => ?_) (by decide) (by simp [AVal.plain, plains]) rfl (by simp [boxed]) ⟨rfl, rfl, rfl⟩ rfl
  injection e with e
  subst e
  simpa [*, Res.reply] using h'
end
end Go.Proofs.YtlaipllgmddkiaaGreat.Ax
namespace Go.Ax.M
open Go Go.Ax
theorem ends_up : ∀ (n m : Nat) (up : List Int) (a : Int), n ≤ m → fEnds up n a = true → fEnds up m a = true := by
 intro n
 induction n with
 | zero =>
  intro m up a _ h
  cases m with
  | zero => exact h
  | succ m => simp only [fEnds] at h ⊢; rw [h]; rfl
 | succ n ih =>
  intro m up a hm h
  cases m with
  | zero => omega
  | succ m =>
   simp only [fEnds, Bool.or_eq_true] at h ⊢
   exact h.imp id (ih m _ _ (by omega))
structure Climb (up : List Int) (D k : Nat) (a : Int) : Prop where
 at_ : a = -1 ∨ fIs up a = true
 le : k ≤ up.length + 1
 ends : fEnds up (up.length + 1 - k) a = true
 num : fDepth.stepsD up (up.length + 1 - k) a + k = D
theorem up_is {up : List Int} (h : fGood up = true) {a : Int} (ha : fIs up a = true) : up.getD a.toNat 0 = -1 ∨ fIs up (up.getD a.toNat 0) = true := by
 simp only [fGood, Bool.and_eq_true] at h
 simp only [fIs, Bool.and_eq_true, decide_eq_true_eq, Bool.not_eq_true', decide_eq_false_iff_not] at ha
 have hm : up.getD a.toNat 0 ∈ up := by
  have : a.toNat < up.length := by omega
  simp [List.getD, this]
 have := List.all_eq_true.1 h.2.1 _ hm
 simp only [fUp, Bool.or_eq_true, decide_eq_true_eq] at this
 rcases this with h | h | h
 ·exact absurd h ha.2.2
 ·exact .inl h
 ·exact .inr h
theorem Climb.start {up : List Int} {i : Int} (h : fMay up i = true) : Climb up (fDepth.stepsD up (up.length + 1) (up.getD i.toNat 0)) 0 (up.getD i.toNat 0) := by
 simp only [fMay, Bool.and_eq_true] at h
 refine ⟨up_is h.1 h.2, by omega, ?_, rfl⟩
 have h1 := h.1
 simp only [fGood, Bool.and_eq_true] at h1
 have h2 := h.2
 simp only [fIs, Bool.and_eq_true, decide_eq_true_eq] at h2
 have := List.all_eq_true.1 h1.2.2 i.toNat (List.mem_range.2 (by omega))
 rw [show ((i.toNat : Nat) : Int) = i by omega] at this
 simp only [fEnds, h.2, Bool.not_true, Bool.false_or] at this
 exact ends_up _ _ _ _ (by omega) this
theorem Climb.next {up : List Int} {D k : Nat} {a : Int} (hg : fGood up = true) (h : Climb up D k a) (ha : a ≠ -1) : fIs up a = true ∧ k < up.length + 1 ∧ Climb up D (k + 1) (up.getD a.toNat 0) := by
 have hi := h.at_.resolve_left ha
 have he := h.ends
 have hn := h.num
 have hle := h.le
 cases e : up.length + 1 - k with
 | zero => rw [e] at he; simp [fEnds, hi] at he
 | succ m =>
  rw [e] at he hn
  have em : up.length + 1 - (k + 1) = m := by omega
  simp only [fEnds, hi, Bool.not_true, Bool.false_or] at he
  simp only [fDepth.stepsD, if_neg ha] at hn
  exact ⟨hi, by omega, up_is hg hi, by omega, by rw [em]; exact he, by rw [em]; omega⟩
theorem Climb.last {up : List Int} {D k : Nat} (h : Climb up D k (-1)) : k = D := by
 have hn := h.num
 cases e : up.length + 1 - k with
 | zero => rw [e] at hn; simp [fDepth.stepsD] at hn; exact hn
 | succ m => rw [e] at hn; simp [fDepth.stepsD] at hn; exact hn
theorem is_get {up : List Int} {a : Int} (h : fIs up a = true) : (0 ≤ a) = True ∧ (a < (up.length : Int)) = True ∧ (ints up)[a.toNat]? = some [.int .i64 (up.getD a.toNat 0)] := by
 simp [fIs] at h; exact ⟨by simp [h], by simp [h], ints_get (by omega)⟩
end Go.Ax.M
namespace Go.Proofs.YtlaipllgmddkiaaGreat.Ax
open Go Go.Ax Go.Ax.M
section
variable {H : Heap} {K : AVal → Heap → Prop} {up : List Int} {o : Nat} {fl ro : Bool}
theorem forest_Depth_spec {i : Int} (ho : H[o]? = some (.arr 1 (ints up) ro)) (hlen : up.length ≤ 1000) (h : K (.int .i64 (fDepth up i)) H) : ACalls Tryz.prog 112 [.agg [.slice o up.length 0 up.length fl], .int .i64 i] H K := by
 have k1 := Keeps.of ho
 have hm : fMay up i = true → _ := fun h => is_get (a := i) (by simp only [fMay, Bool.and_eq_true] at h; exact h.2)
 refine ACalls.tidy ?_
 cases hmay : fMay up i with
 | false =>
  clear hm
  refine into ok112 ?_; (try simp only [c112, w112, k1, hmay, go_sem]); repeat' ((first | refine orR ?_ | (refine sp ?_ ?_ <;> intro hc) | refine forest_may_spec (k1 _) ?_) <;> try simp only [*, w112, k1, hmay, go_sem])
  exact ⟨rfl, ⟨_, rfl⟩, ki h (by simp only [fDepth, hmay, cond_false])⟩
 | true =>
  have hm := hm hmay
  refine into ok112 ?_; (try simp only [c112, w112, k1, hm, hmay, go_sem]); repeat' ((first | refine orR ?_ | (refine sp ?_ ?_ <;> intro hc) | refine forest_may_spec (k1 _) ?_) <;> try simp only [*, w112, k1, hm, hmay, go_sem])
  have hg : fGood up = true := by simp only [fMay, Bool.and_eq_true] at hmay; exact hmay.1
  have hD : fDepth up i = (fDepth.stepsD up (up.length + 1) (up.getD i.toNat 0) : Int) := by simp only [fDepth, hmay, cond_true]
  rw [hD] at h
  have hst := Climb.start hmay
  generalize fDepth.stepsD up (up.length + 1) (up.getD i.toNat 0) = D at h hst
  clear hm
  refine ALoop.keep [6, 5, 2] ?_; simp only [mpC, go_sem]
  refine ALoop.acc (fun k a => [(6, .int .i64 a), (5, .int .i64 (k : Int))]) (fun _ _ => _) (fun k a => Climb up D k a) (up.length + 1) ?_ (a0 := up.getD i.toNat 0) hst
  intro k a hk hI next
  refine ALoop.unfold ?_
  have hw := wrap_succ (k := k) (by omega)
  by_cases ha : a = -1
  ·subst ha
   have e := hI.last
   subst e
   (try simp only [w112, k1, hw, wpx_of b112_3.eq_1, apC, go_sem]); repeat' ((first | refine orR ?_ | (refine sp ?_ ?_ <;> intro hc) | fail) <;> try simp only [*, w112, k1, hw, wpx_of b112_3.eq_1, apC, go_sem])
   exact ⟨rfl, ⟨_, rfl⟩, h⟩
  ·obtain ⟨h1, h2, h3⟩ := hI.next hg ha
   have hga := is_get h1
   (try simp only [w112, k1, hw, ha, hga, wpx_of b112_3.eq_1, apC, go_sem]); repeat' ((first | refine orR ?_ | (refine sp ?_ ?_ <;> intro hc) | fail) <;> try simp only [*, w112, k1, hw, ha, hga, wpx_of b112_3.eq_1, apC, go_sem])
   (refine ALoop.keep [6, 5, 2] ?_; simp only [mpC, go_sem]; refine next _ h2 h3)
end
end Go.Proofs.YtlaipllgmddkiaaGreat.Ax
namespace Go.Ax.M
open Go Go.Ax
def fieldC (x : Nat × Nat) : List AVal := [.int .i64 (x.1 : Int), .int .i64 (x.2 : Int)]
def fieldsC (F : List (Nat × Nat)) : List (List AVal) := F.map fieldC
def maskN (x : Nat × Nat) : Nat := (2 ^ x.2 - 1) * 2 ^ x.1
def endN (F : List (Nat × Nat)) : Nat → Nat
 | 0 => 0
 | k + 1 => (F.getD k (0, 0)).1 + (F.getD k (0, 0)).2
structure FOk (F : List (Nat × Nat)) : Prop where
 len : F.length ≤ 64
 ok : ∀ k, k < F.length → endN F k ≤ (F.getD k (0, 0)).1 ∧ 1 ≤ (F.getD k (0, 0)).2 ∧ (F.getD k (0, 0)).1 + (F.getD k (0, 0)).2 ≤ 63
def allN (F : List (Nat × Nat)) : Nat → Nat
 | 0 => 0
 | k + 1 => allN F k + maskN (F.getD k (0, 0))
def putN (F : List (Nat × Nat)) (v : List Int) : Nat → Int
 | 0 => 0
 | k + 1 => putN F v k + v.getD k 0 * 2 ^ (F.getD k (0, 0)).1
def getN (w : Int) (F : List (Nat × Nat)) : List Int := F.map fun x => w / 2 ^ x.1 % 2 ^ x.2
def wordsC (l : List Int) : List (List AVal) := l.map fun x => [.int .u64 x]
theorem wordsC_get {l : List Int} {k : Nat} (h : k < l.length) : (wordsC l)[k]? = some [.int .u64 (l.getD k 0)] := by simp [wordsC, h, List.getD]
@[go_sem] theorem wordsC_length {l : List Int} : (wordsC l).length = l.length := by simp [wordsC]
theorem wordsC_plain {l : List Int} : ∀ x ∈ wordsC l, ∀ a ∈ x, a.plain = true := by
 intro x hx a ha
 obtain ⟨n, -, rfl⟩ := List.mem_map.1 hx
 simp at ha; subst ha; rfl
@[go_sem] theorem fieldsC_length {l : List (Nat × Nat)} : (fieldsC l).length = l.length := by simp [fieldsC]
theorem fieldsC_get {F : List (Nat × Nat)} {k : Nat} (h : k < F.length) : (fieldsC F)[k]? = some [.int .i64 ((F.getD k (0, 0)).1 : Int), .int .i64 ((F.getD k (0, 0)).2 : Int)] := by simp [fieldsC, fieldC, h, List.getD]
theorem pow_pos2 {k : Nat} : 0 < (2 : Nat) ^ k := Nat.pow_pos (by omega)
theorem pow_mono {a b : Nat} (h : a ≤ b) : (2 : Nat) ^ a ≤ 2 ^ b := Nat.pow_le_pow_right (by omega) h
theorem mask_lt {x : Nat × Nat} : maskN x + 2 ^ x.1 = 2 ^ (x.1 + x.2) := by
 have := pow_pos2 (k := x.2)
 rw [maskN, Nat.pow_add, Nat.mul_comm (2 ^ x.1)]
 have e : 2 ^ x.2 = (2 ^ x.2 - 1) + 1 := by omega
 conv => rhs; rw [e, Nat.add_mul, Nat.one_mul]
theorem all_lt {F : List (Nat × Nat)} (h : FOk F) : ∀ k, k ≤ F.length → allN F k < 2 ^ endN F k
 | 0, _ => by simp [allN, endN]
 | k + 1, hk => by
  have := all_lt h k (by omega)
  have h2 := h.ok k (by omega)
  have h3 := mask_lt (x := F.getD k (0, 0))
  have h4 := pow_mono h2.1
  simp only [allN, endN]
  rw [← h3, Nat.add_comm]
  exact Nat.add_lt_add_left (Nat.lt_of_lt_of_le this h4) _
theorem put_lt {F : List (Nat × Nat)} {v : List Int} (h : FOk F) (hv : ∀ k, k < F.length → 0 ≤ v.getD k 0 ∧ v.getD k 0 < 2 ^ (F.getD k (0, 0)).2) : ∀ k, k ≤ F.length → 0 ≤ putN F v k ∧ putN F v k < 2 ^ endN F k
 | 0, _ => by simp [putN, endN]
 | k + 1, hk => by
  have := put_lt h hv k (by omega)
  have h2 := h.ok k (by omega)
  have h3 := hv k (by omega)
  have h4 : (2 : Int) ^ endN F k ≤ 2 ^ (F.getD k (0, 0)).1 := by exact_mod_cast pow_mono h2.1
  have h5 : (0 : Int) < 2 ^ (F.getD k (0, 0)).1 := Int.pow_pos (by omega)
  simp only [putN, endN]
  have h6 : v.getD k 0 * 2 ^ (F.getD k (0, 0)).1 ≤ (2 ^ (F.getD k (0, 0)).2 - 1) * 2 ^ (F.getD k (0, 0)).1 := Int.mul_le_mul_of_nonneg_right (by omega) (by omega)
  have h7 : 0 ≤ v.getD k 0 * 2 ^ (F.getD k (0, 0)).1 := Int.mul_nonneg h3.1 (by omega)
  have h8 : (2 : Int) ^ (F.getD k (0, 0)).1 + (2 ^ (F.getD k (0, 0)).2 - 1) * 2 ^ (F.getD k (0, 0)).1 = 2 ^ ((F.getD k (0, 0)).1 + (F.getD k (0, 0)).2) := by
   rw [Int.pow_add, Int.sub_mul, Int.one_mul, Int.add_comm, Int.sub_add_cancel, Int.mul_comm]
  exact ⟨Int.add_nonneg this.1 h7, by rw [← h8]; exact Int.add_lt_add_of_lt_of_le (Int.lt_of_lt_of_le this.2 h4) h6⟩
end Go.Ax.M
namespace Go.Ax.M
open Go Go.Ax
theorem shl_u {a : Int} {b : Nat} (h0 : 0 ≤ a) (hb : b ≤ 64) (h : a * 2 ^ b < 2 ^ 64) : aShift .shl .u64 a (b : Int) = some (.int .u64 (a * 2 ^ b)) := by
 have hp : (0 : Int) < 2 ^ b := Int.pow_pos (by omega)
 have h1 : 0 ≤ a * 2 ^ b := Int.mul_nonneg h0 (by omega)
 have e : min ((b : Int).toNat) (IntKind.bits .u64) = b := by simp [IntKind.bits]; omega
 unfold aShift
 rw [if_neg (by omega)]
 simp only [e]
 rw [wrap_u h1 h]
theorem shr_nat {a : Int} {b : Nat} (hb : b ≤ 64) : aShift .shr .u64 a (b : Int) = some (.int .u64 (a / 2 ^ b)) := by
 have e : min ((b : Int).toNat) (IntKind.bits .u64) = b := by simp [IntKind.bits]; omega
 unfold aShift
 rw [if_neg (by omega)]
 simp only [e]
 rw [Int.fdiv_eq_ediv_of_nonneg _ (Int.le_of_lt (Int.pow_pos (by omega)))]
theorem pow_int {k : Nat} : ((2 ^ k : Nat) : Int) = 2 ^ k := by simp
theorem mask_div {f n : Nat} : ((maskN (f, n) : Nat) : Int) / 2 ^ f = 2 ^ n - 1 := by
 have hp : 0 < (2 : Nat) ^ n := pow_pos2
 have hf : 0 < (2 : Nat) ^ f := pow_pos2
 have e : maskN (f, n) / 2 ^ f = 2 ^ n - 1 := by rw [maskN, Nat.mul_div_cancel _ hf]
 have := congrArg (fun a : Nat => (a : Int)) e
 simp only [Int.natCast_ediv, pow_int] at this
 rw [this, Int.ofNat_sub hp]; simp
theorem and_zero {a m f : Nat} (h : a < 2 ^ f) : a &&& m * 2 ^ f = 0 := by
 apply Nat.eq_of_testBit_eq
 intro i
 rw [Nat.mul_comm, Nat.testBit_and, Nat.testBit_two_pow_mul, Nat.zero_testBit]
 by_cases hi : i < f
 ·simp; omega
 ·rw [Nat.testBit_lt_two_pow (Nat.lt_of_lt_of_le h (pow_mono (by omega)))]; simp
theorem or_sum {a m f : Nat} (h : a < 2 ^ f) : a ||| m * 2 ^ f = a + m * 2 ^ f := by
 rw [Nat.or_comm, Nat.mul_comm, ← Nat.two_pow_add_eq_or_of_lt h, Nat.add_comm]
structure AtF (F : List (Nat × Nat)) (k f n : Nat) : Prop where
 get : F.getD k (0, 0) = (f, n)
 n1 : 1 ≤ n
 fn : f + n ≤ 63
 lt : allN F k < 2 ^ f
 en : endN F k ≤ f
theorem FOk.at {F : List (Nat × Nat)} (h : FOk F) {k : Nat} (hk : k < F.length) : ∃ f n, AtF F k f n := by
 obtain ⟨h1, h2, h3⟩ := h.ok k hk
 have := all_lt h k (by omega)
 have h4 := pow_mono h1
 exact ⟨_, _, rfl, h2, h3, Nat.lt_of_lt_of_le this h4, h1⟩
theorem AtF.mlt {F : List (Nat × Nat)} {k f n : Nat} (h : AtF F k f n) : maskN (f, n) < 2 ^ 63 := by
 have h1 := mask_lt (x := (f, n))
 have h2 := pow_mono h.fn
 have h3 := pow_pos2 (k := f)
 simp only at h1
 exact Nat.lt_of_lt_of_le (by rw [← h1]; exact Nat.lt_add_of_pos_right h3) h2
theorem AtF.alt {F : List (Nat × Nat)} {k f n : Nat} (h : AtF F k f n) : allN F k < 2 ^ 63 := by
 have h1 := h.lt
 have h2 := h.fn
 exact Nat.lt_of_lt_of_le h1 (pow_mono (by omega))
end Go.Ax.M
namespace Go.Proofs.YtlaipllgmddkiaaGreat.Ax
open Go Go.Ax Go.Ax.M
section
variable {H : Heap} {K : AVal → Heap → Prop} {F : List (Nat × Nat)} {o p : Nat} {fl fp ro rp : Bool}
theorem mask_spec {f n : Nat} (h1 : 1 ≤ n) (h : f + n ≤ 63) (hK : K (.int .u64 (maskN (f, n) : Int)) H) : ACalls Tryz.prog 199 [.agg [.int .i64 (f : Int), .int .i64 (n : Int)]] H K := by
 have p1 := pow_mono (show n ≤ 63 by omega)
 have p0 := pow_pos2 (k := n)
 have m1 := mask_lt (x := (f, n))
 have m2 := pow_mono h
 have p3 := pow_pos2 (k := f)
 simp only at m1
 have e1 : aShift .shl .u64 1 (n : Int) = some (.int .u64 ((2 ^ n : Nat) : Int)) := by
  rw [shl_u (by omega) (by omega) (by rw [← pow_int]; omega), Int.one_mul, pow_int]
 have e2 : IntKind.wrap .u64 (((2 ^ n : Nat) : Int) - 1) = ((2 ^ n - 1 : Nat) : Int) := by
  rw [wrap_u (by omega) (by omega)]; omega
 have e3 : aShift .shl .u64 ((2 ^ n - 1 : Nat) : Int) (f : Int) = some (.int .u64 (maskN (f, n) : Int)) := by
  have e : ((2 ^ n - 1 : Nat) : Int) * 2 ^ f = (maskN (f, n) : Int) := by rw [← pow_int]; simp only [maskN, Int.natCast_mul]
  rw [shl_u (by omega) (by omega) (by rw [e]; omega), e]
 refine ACalls.tidy ?_
 refine into ok199 ?_; (try simp only [c199, wpx_of k199_0.eq_1, e1, e2, e3, go_sem]); repeat' ((first | refine orR ?_ | (refine sp ?_ ?_ <;> intro hc) | fail) <;> try simp only [*, wpx_of k199_0.eq_1, e1, e2, e3, go_sem])
 exact ⟨rfl, ⟨_, rfl⟩, hK⟩
theorem tag_all_spec (hF : FOk F) (ho : H[o]? = some (.arr 2 (fieldsC F) ro)) (hK : K (.tup [.int .u64 (allN F F.length : Int), .bool true]) H) : ACalls Tryz.prog 238 [.slice o F.length 0 F.length fl] H K := by
 have k1 := Keeps.of ho
 have hlen := hF.len
 refine ACalls.tidy ?_
 refine into ok238 ?_; (try simp only [c238, w238, k1, go_sem]); repeat' ((first | refine orR ?_ | (refine sp ?_ ?_ <;> intro hc) | fail) <;> try simp only [*, w238, k1, go_sem])
 refine ALoop.keep [4, 9, 7, 8] ?_; simp only [mpC, go_sem]
 refine ALoop.heap (List.append_nil H).symm ?_
 refine ALoop.acc (fun k G => [(4, .int .u64 (allN F k : Int)), (9, .int .i64 (k : Int))]) (fun k G => H ++ G) (fun k G => True) F.length ?_ (a0 := []) trivial
 intro k G hk _ next
 refine ALoop.hid fun W hW => ?_
 have k1 := k1.ex hW.ex
 have k10 := k1.at
 refine ALoop.unfold ?_
 have hw := wrap_succ (k := k) (by omega)
 by_cases hkF : k < F.length
 ·obtain ⟨f, n, af⟩ := hF.at hkF
  have hg := fieldsC_get hkF
  rw [af.get] at hg
  simp only at hg
  have hs : allN F (k + 1) = allN F k + maskN (f, n) := by rw [allN, af.get]
  have fn := af.fn
  have n1 := af.n1
  have a1 : ((f : Int) < 0) = False := eq_false (by omega)
  have a2 : ((64 : Int) ≤ (f : Int)) = False := eq_false (by omega)
  have a3 : ((n : Int) < 1) = False := eq_false (by omega)
  have a4 : IntKind.wrap .i64 (64 - (f : Int)) = 64 - (f : Int) := w64 (by omega) (by omega)
  have a5 : ((64 - (f : Int)) < (n : Int)) = False := eq_false (by omega)
  have a6 : IntKind.wrap .u64 ((BitVec.ofInt (IntKind.bits .u64) (allN F k : Int) &&& BitVec.ofInt (IntKind.bits .u64) (maskN (f, n) : Int)).toNat : Int) = 0 := by
   have := and_nat (a := allN F k) (b := maskN (f, n)) (by have := af.alt; omega) (by have := af.mlt; omega)
   rw [show maskN (f, n) = (2 ^ n - 1) * 2 ^ f from rfl, and_zero af.lt] at this
   exact this
  have a7 : IntKind.wrap .u64 ((BitVec.ofInt (IntKind.bits .u64) (allN F k : Int) ||| BitVec.ofInt (IntKind.bits .u64) (maskN (f, n) : Int)).toNat : Int) = (allN F (k + 1) : Int) := by
   have := or_nat (a := allN F k) (b := maskN (f, n)) (by have := af.alt; omega) (by have := af.mlt; omega)
   rw [show maskN (f, n) = (2 ^ n - 1) * 2 ^ f from rfl, or_sum af.lt] at this
   rw [hs]; exact this
  clear hs
  simp only [go_sem] at a6 a7
  (try simp only [w238, k1, k10, hw, hg, hkF, a1, a2, a3, a4, a5, a6, a7, wpx_of b238_4.eq_1, nlt_iff, n0_le, apC, go_sem]); repeat' ((first | refine orR ?_ | (refine sp ?_ ?_ <;> intro hc) | refine mask_spec n1 fn ?_) <;> try simp only [*, w238, k1, k10, hw, hg, hkF, a1, a2, a3, a4, a5, a6, a7, wpx_of b238_4.eq_1, nlt_iff, n0_le, apC, go_sem])
  have hW : W = _ := hW
  subst hW
  simp only [List.append_assoc]
  (refine ALoop.keep [4, 9, 7, 8] ?_; simp only [mpC, go_sem]; refine next _ hkF trivial)
 ·have : k = F.length := by omega
  subst this
  (try simp only [w238, k1, k10, hw, hkF, wpx_of b238_4.eq_1, nlt_iff, n0_le, apC, go_sem]); repeat' ((first | refine orR ?_ | (refine sp ?_ ?_ <;> intro hc) | fail) <;> try simp only [*, w238, k1, k10, hw, hkF, wpx_of b238_4.eq_1, nlt_iff, n0_le, apC, go_sem])
  have hW : W = _ := hW
  subst hW
  exact ⟨rfl, ⟨_, rfl⟩, hK⟩
theorem tag_Good_spec (hF : FOk F) (ho : H[o]? = some (.arr 2 (fieldsC F) ro)) (hK : K (.bool true) H) : ACalls Tryz.prog 198 [.slice o F.length 0 F.length fl] H K := by
 have k1 := Keeps.of ho
 refine ACalls.tidy ?_
 refine into ok198 ?_; (try simp only [c198, wpx_of k198_0.eq_1, k1, go_sem]); repeat' ((first | refine orR ?_ | (refine sp ?_ ?_ <;> intro hc) | refine tag_all_spec hF ho ?_) <;> try simp only [*, wpx_of k198_0.eq_1, k1, go_sem])
 exact ⟨rfl, [], (List.append_nil _).symm⟩
theorem tag_Put_spec {v : List Int} (hF : FOk F) (ho : H[o]? = some (.arr 2 (fieldsC F) ro)) (hp : H[p]? = some (.arr 1 (wordsC v) rp)) (hvl : v.length = F.length) (hv : ∀ k, k < F.length → 0 ≤ v.getD k 0 ∧ v.getD k 0 < 2 ^ (F.getD k (0, 0)).2)
 (hK : K (.tup [.int .u64 (putN F v F.length), .bool true]) H) : ACalls Tryz.prog 121 [.slice o F.length 0 F.length fl, .slice p v.length 0 v.length fp] H K := by
 have k1 := Keeps.of ho
 have k2 := Keeps.of hp
 have hlen := hF.len
 have hvl' : ((F.length : Int) = (v.length : Int)) = True := eq_true (by omega)
 have hvh : Hid (v.length = F.length) := hvl
 clear hvl
 refine ACalls.tidy ?_
 refine into ok121 ?_; (try simp only [c121, w121, k1, k2, hvl', go_sem]); repeat' ((first | refine orR ?_ | (refine sp ?_ ?_ <;> intro hc) | refine tag_Good_spec hF ho ?_) <;> try simp only [*, w121, k1, k2, hvl', go_sem])
 refine ALoop.keep [6, 21, 1, 19, 20] ?_; simp only [mpC, go_sem]
 refine ALoop.heap (List.append_nil H).symm ?_
 refine ALoop.acc (fun k G => [(6, .int .u64 (putN F v k)), (21, .int .i64 (k : Int))]) (fun k G => H ++ G) (fun k G => True) F.length ?_ (a0 := []) trivial
 intro k G hk _ next
 refine ALoop.hid fun W hW => ?_
 have k1 := k1.ex hW.ex
 have k2 := k2.ex hW.ex
 have k10 := k1.at
 have k20 := k2.at
 refine ALoop.unfold ?_
 have hw := wrap_succ (k := k) (by omega)
 by_cases hkF : k < F.length
 ·obtain ⟨f, n, af⟩ := hF.at hkF
  have hg := fieldsC_get hkF
  have hvk := hv k hkF
  have hput := put_lt hF hv k (by omega)
  have hput2 := put_lt hF hv (k + 1) (by omega)
  have hs : putN F v (k + 1) = putN F v k + v.getD k 0 * 2 ^ f := by rw [putN, af.get]
  have he : endN F (k + 1) = f + n := by rw [endN, af.get]
  rw [af.get] at hg hvk
  simp only at hg hvk
  have hkv : k < v.length := by have : v.length = F.length := hvh; omega
  have hgv := wordsC_get hkv
  have fn := af.fn
  have n1 := af.n1
  have pe : (2 : Int) ^ endN F k ≤ 2 ^ f := by exact_mod_cast pow_mono af.en
  have pf : (2 : Int) ^ (f + n) ≤ 2 ^ 63 := by exact_mod_cast pow_mono fn
  rw [he] at hput2
  have b1 : aShift .shr .u64 ((maskN (f, n) : Nat) : Int) (f : Int) = some (.int .u64 (2 ^ n - 1)) := by
   rw [shr_nat (by omega), mask_div]
  have b2 : ((2 : Int) ^ n - 1 < v.getD k 0) = False := eq_false (by omega)
  have b3 : aShift .shl .u64 (v.getD k 0) (f : Int) = some (.int .u64 (v.getD k 0 * 2 ^ f)) := shl_u hvk.1 (by omega) (by omega)
  have b4 : IntKind.wrap .u64 ((BitVec.ofInt (IntKind.bits .u64) (putN F v k) ||| BitVec.ofInt (IntKind.bits .u64) (v.getD k 0 * 2 ^ f)).toNat : Int) = putN F v (k + 1) := by
   rw [hs]; exact or_add hput.1 (by omega) hvk.1 (by omega)
  have kv : ((k : Int) < (v.length : Int)) = True := eq_true (by omega)
  clear hs hput hput2 hvk he hv
  generalize v.getD k 0 = x at *
  simp only [go_sem] at b4
  (try simp only [w121, k1, k10, k2, k20, hw, hg, hgv, hkF, kv, b1, b2, b3, b4, wpx_of b121_5.eq_1, nlt_iff, n0_le, apC, go_sem]); repeat' ((first | refine orR ?_ | (refine sp ?_ ?_ <;> intro hc) | refine mask_spec n1 fn ?_) <;> try simp only [*, w121, k1, k10, k2, k20, hw, hg, hgv, hkF, kv, b1, b2, b3, b4, wpx_of b121_5.eq_1, nlt_iff, n0_le, apC, go_sem])
  have hW : W = _ := hW
  subst hW
  simp only [List.append_assoc]
  (refine ALoop.keep [6, 21, 1, 19, 20] ?_; simp only [mpC, go_sem]; refine next _ hkF trivial)
 ·have : k = F.length := by omega
  subst this
  (try simp only [w121, k1, k10, hw, hkF, wpx_of b121_5.eq_1, nlt_iff, n0_le, apC, go_sem]); repeat' ((first | refine orR ?_ | (refine sp ?_ ?_ <;> intro hc) | fail) <;> try simp only [*, w121, k1, k10, hw, hkF, wpx_of b121_5.eq_1, nlt_iff, n0_le, apC, go_sem])
  have hW : W = _ := hW
  subst hW
  exact ⟨rfl, ⟨_, rfl⟩, hK⟩
theorem tag_Get_spec {w : Int} (hF : FOk F) (hF0 : 0 < F.length) (h0 : 0 ≤ w) (h1 : w < 2 ^ 64) (ho : H[o]? = some (.arr 2 (fieldsC F) ro)) (hK : K (.slice H.length F.length 0 F.length false) (H ++ [.arr 1 (wordsC (getN w F)) false])) :
 ACalls Tryz.prog 125 [.int .u64 w, .slice o F.length 0 F.length fl] H K := by
 have k1 := Keeps.of ho
 have hlen := hF.len
 have c1 : ((F.length : Int) * 8 ≤ 140737488355328) = True := eq_true (by omega)
 have c2 : ((F.length : Int) ≤ 9223372036854775807) = True := eq_true (by omega)
 have c3 : ((0 : Int) = (F.length : Int)) = False := eq_false (by omega)
 refine ACalls.gc ?_
 refine into ok125 ?_; (try simp only [c125, w125, k1, c1, c2, c3, n0_le, go_sem]); repeat' ((first | refine orR ?_ | (refine sp ?_ ?_ <;> intro hc) | refine tag_Good_spec hF ho ?_) <;> try simp only [*, w125, k1, c1, c2, c3, n0_le, go_sem])
 refine ALoop.keep [5, 16, 0, 14, 15] ?_; simp only [mpC, go_sem]
 refine ALoop.acc (fun k G => [(5, .slice H.length k 0 k false), (16, .int .i64 (k : Int))]) (fun k G => H ++ .arr 1 (wordsC ((getN w F).take k)) false :: G) (fun k G => True) F.length ?_ (a0 := []) trivial
 intro k G hk _ next
 refine ALoop.hid fun W hW => ?_
 have k1 := k1.ex hW.ex
 have k10 := k1.at
 have ko := hW.keep0
 have ko0 := ko.at
 have kos := ko.set
 have hw := wrap_succ (k := k) (by omega)
 refine ALoop.unfold ?_
 have hgl : (getN w F).length = F.length := by simp [getN]
 by_cases hkF : k < F.length
 ·obtain ⟨f, n, af⟩ := hF.at hkF
  have hg := fieldsC_get hkF
  rw [af.get] at hg
  simp only at hg
  have fn := af.fn
  have n1 := af.n1
  have hsucc : wordsC ((getN w F).take (k + 1)) = wordsC ((getN w F).take k) ++ [[.int .u64 (w / 2 ^ f % 2 ^ n)]] := by
   rw [List.take_succ_eq_append_getElem (by rw [hgl]; exact hkF)]
   have e : F[k] = (f, n) := by have := af.get; simpa [List.getD, hkF] using this
   simp [wordsC, getN, e]
  have hlk : (wordsC ((getN w F).take k)).length = k := by simp [wordsC, getN]; omega
  have hb : (k + 1) * 8 ≤ 140737488355328 := by omega
  have b1 : IntKind.wrap .u64 ((BitVec.ofInt (IntKind.bits .u64) w &&& BitVec.ofInt (IntKind.bits .u64) (maskN (f, n) : Int)).toNat : Int) = IntKind.wrap .u64 ((BitVec.ofInt 64 w &&& BitVec.ofInt 64 ((2 ^ n - 1) * 2 ^ f)).toNat : Int) := by
   have hp : 0 < (2 : Nat) ^ n := pow_pos2
   have e : ((maskN (f, n) : Nat) : Int) = (2 ^ n - 1) * 2 ^ f := by rw [maskN, Int.natCast_mul, Int.ofNat_sub hp]; simp
   rw [e]; rfl
  have b2 : aShift .shr .u64 (IntKind.wrap .u64 ((BitVec.ofInt (IntKind.bits .u64) w &&& BitVec.ofInt (IntKind.bits .u64) (maskN (f, n) : Int)).toNat : Int)) (f : Int) = some (.int .u64 (w / 2 ^ f % 2 ^ n)) := by
   rw [b1, shr_nat (by omega), field_u h0 h1 fn]
  clear b1
  simp only [go_sem] at b2
  generalize wordsC ((getN w F).take k) = A at *
  generalize w / 2 ^ f % 2 ^ n = x at *
  have hAh : Hid (A.length = k) := hlk
  (try simp only [w125, k1, k10, ko, ko0, kos, hw, hg, hkF, b2, hlk, hb, wpx_of b125_3.eq_1, nlt_iff, n0_le, apC, go_sem]); repeat' ((first | refine orR ?_ | (refine sp ?_ ?_ <;> intro hc) | refine mask_spec n1 fn ?_) <;> try simp only [*, w125, k1, k10, ko, ko0, kos, hw, hg, hkF, b2, hlk, hb, wpx_of b125_3.eq_1, nlt_iff, n0_le, apC, go_sem])
  have hW : W = _ := hW
  subst hW
  rw [hsucc] at next
  simp only [go_sem, List.append_assoc] at next ⊢
  (refine ALoop.keep [5, 16, 0, 14, 15] ?_; simp only [mpC, go_sem]; refine next _ hkF)
 ·have : k = F.length := by omega
  subst this
  (try simp only [w125, k1, k10, ko, ko0, hw, hkF, wpx_of b125_3.eq_1, nlt_iff, n0_le, apC, go_sem]); repeat' ((first | refine orR ?_ | (refine sp ?_ ?_ <;> intro hc) | fail) <;> try simp only [*, w125, k1, k10, ko, ko0, hw, hkF, wpx_of b125_3.eq_1, nlt_iff, n0_le, apC, go_sem])
  have hW : W = _ := hW
  subst hW
  have e : (getN w F).take F.length = getN w F := List.take_of_length_le (by omega)
  rw [e]
  exact Gc.slice (i := 0) rfl wordsC_plain hK
end
end Go.Proofs.YtlaipllgmddkiaaGreat.Ax
namespace Go.Ax.M
open Go Go.Ax
def capF : List (Nat × Nat) := [(0, 8), (8, 8), (16, 16), (32, 16)]
theorem capF_ok : FOk capF := ⟨by decide, by decide⟩
def capV (c : Cap) : List Int := [c.ty, c.ri, c.ba, c.th]
theorem cGood_in {c : Cap} (h : cGood c = true) : 0 ≤ c.ty ∧ c.ty ≤ 5 ∧ 0 ≤ c.ri ∧ c.ri ≤ 7 ∧ 0 ≤ c.ba ∧ c.ba ≤ 65535 ∧ 0 ≤ c.th ∧ c.th ≤ 47 := by
 simp only [cGood, Bool.or_eq_true, Bool.and_eq_true] at h
 rcases h with h | ⟨h1, h2, h3, h4, -⟩
 ·simp only [cNone, Bool.and_eq_true, decide_eq_true_eq] at h; omega
 ·simp only [inB_iff, rGood, rBadge] at h1 h2 h3 h4
  omega
theorem capV_ok {c : Cap} (h : cGood c = true) : ∀ k, k < capF.length → 0 ≤ (capV c).getD k 0 ∧ (capV c).getD k 0 < 2 ^ (capF.getD k (0, 0)).2 := by
 intro k hk
 have := cGood_in h
 have hk : k < 4 := hk
 rcases k with _ | _ | _ | _ | k
 ·simp [capV, capF]; omega
 ·simp [capV, capF]; omega
 ·simp [capV, capF]; omega
 ·simp [capV, capF]; omega
 ·omega
theorem cap_put {c : Cap} (h : cGood c = true) : putN capF (capV c) capF.length = cWord c := by
 simp [putN, capF, capV, cWord, h]
end Go.Ax.M
namespace Go.Proofs.YtlaipllgmddkiaaGreat.Ax
open Go Go.Ax Go.Ax.M
section
variable {H : Heap} {K : AVal → Heap → Prop} {c : Cap}
theorem cap_fields_spec (h : K (.slice H.length 4 0 4 true) (H ++ [.arr 2 (fieldsC capF) false])) : ACalls Tryz.prog 187 [] H K := by
 refine ACalls.gc ?_
 refine into ok187 ?_; (try simp only [c187, wpx_of k187_0.eq_1, go_sem]); repeat' ((first | refine orR ?_ | (refine sp ?_ ?_ <;> intro hc) | fail) <;> try simp only [*, wpx_of k187_0.eq_1, go_sem])
 exact Gc.slice (i := 0) rfl (by decide) h
theorem cap_Word_spec (hg : cGood c = true) (hK : K (.tup [.int .u64 (cWord c), .bool true]) H) : ACalls Tryz.prog 111 [.agg c.cells] H K := by
 have hi := cGood_in hg
 have w1 : IntKind.wrap .u64 c.ty = c.ty := wrap_u (by omega) (by omega)
 have w2 : IntKind.wrap .u64 c.ri = c.ri := wrap_u (by omega) (by omega)
 have w3 : IntKind.wrap .u64 c.ba = c.ba := wrap_u (by omega) (by omega)
 have w4 : IntKind.wrap .u64 c.th = c.th := wrap_u (by omega) (by omega)
 refine ACalls.tidy ?_
 unfold Cap.cells
 refine into ok111 ?_; (try simp only [c111, w111, hg, w1, w2, w3, w4, go_sem]); repeat' ((first | refine orR ?_ | (refine sp ?_ ?_ <;> intro hc) | refine cap_Good_x ?_ | refine cap_fields_spec ?_ | refine tag_Put_spec (F := capF) (v := capV c) capF_ok (by first | exact at0 | exact atX rfl) (by first | exact at0 | exact atX rfl) rfl (capV_ok hg) ?_) <;> try simp only [*, w111, hg, w1, w2, w3, w4, go_sem])
 exact ⟨rfl, ⟨_, rfl⟩, by rw [cap_put hg]; exact hK⟩
end
end Go.Proofs.YtlaipllgmddkiaaGreat.Ax
namespace Go.Proofs.YtlaipllgmddkiaaGreat.Ax
open Go Go.Ax Go.Ax.M
section
variable {H : Heap} {K : AVal → Heap → Prop} {s : State} {th x y w : Int} {a b : List Int} {oS oT oA oB : Nat} {fS fT rS rT fA fB rA rB : Bool}
theorem forest_Depth_x {up : List Int} {i : Int} {o n : Nat} {fl ro : Bool} (en : up.length = n) (ho : H[o]? = some (.arr 1 (ints up) ro)) (hlen : n ≤ 1000) (h : K (.int .i64 (fDepth up i)) H) : ACalls Tryz.prog 112 [.agg [.slice o n 0 n fl], .int .i64 i] H K := by
 subst en; exact forest_Depth_spec ho hlen h
theorem leaf13 {x y w : Int} {a b : List Int} (h : callGood ⟨13, a, b, x, y, w⟩ = true) : leafM s th ⟨13, a, b, x, y, w⟩ =
 bif !decide ((fCap s th a).2.2 = 0) then .bad (fCap s th a).2.2 else ⟨0, cWord (fCap s th a).2.1, fDepth (sForest s) (fCap s th a).1, none⟩ := by
 simp [leafM, h]
theorem leaf_Do_tell (hS : H[oS]? = some (.arr 5 (s.slots.map Slot.cells) rS)) (hT : H[oT]? = some (.arr 13 (s.things.map Thing.cells) rT)) (hA : H[oA]? = some (.arr 1 (ints a) rA)) (hB : H[oB]? = some (.arr 1 (ints b) rB))
 (h : K (.tup [stA s oS oT fS fT, (leafM s th ⟨13, a, b, x, y, w⟩).reply]) H) :
 ACalls Tryz.prog 44 [stA s oS oT fS fT, .int .i64 th, .agg [.int .i64 13, .slice oA a.length 0 a.length fA, .slice oB b.length 0 b.length fB, .int .i64 x, .int .i64 y, .int .u64 w]] H K := by
 have kT := Keeps.of hT
 have kS := Keeps.of hS
 have kA := Keeps.of hA
 have kB := Keeps.of hB
 have hv := fun (e v n : Int) => show (AVal.tup [stA s oS oT fS fT, .agg [.int .i64 e, .int .u64 v, .int .i64 n]]).refs (fun o => o < H.length) by simp [AVal.refs, refsL]; exact ⟨get_lt hS, get_lt hT⟩
 have hlF : (sForest s).length = s.slots.length := by simp [sForest]
 cases hcg : callGood ⟨13, a, b, x, y, w⟩ with
 | false =>
  have e : leafM s th ⟨13, a, b, x, y, w⟩ = .bad 1 := by simp only [leafM, hcg, Bool.not_false, Bool.true_or, cond_true]
  rw [e] at h
  refine ACalls.gc ?_
  refine into ok44 ?_; (try simp only [c44, w44, stV, slotsO, thingsO, Nat.add_assoc, hcg, go_sem]); repeat' ((first | refine orR ?_ | (refine sp ?_ ?_ <;> intro hc) | refine call_Good_spec (c := ⟨13, a, b, x, y, w⟩) (kA _) (kB _) ?_) <;> try simp only [*, w44, stV, slotsO, thingsO, Nat.add_assoc, hcg, go_sem])
  exact Gc.old (hv _ _ _) h
 | true =>
  rw [leaf13 hcg] at h
  by_cases he : (fCap s th a).2.2 = 0
  ·have hok := fCap_ok he
   have hgood : sGood s = true := hok.1.ok.good
   have hgc : cGood (fCap s th a).2.1 = true := by rw [hok.2.2.2.1]; exact hok.1.capG _ (by omega)
   clear hok
   rw [he] at h
   simp only [decide_true, Bool.not_true, cond_false, Res.reply] at h
   refine ACalls.gc ?_
   refine into ok44 ?_; (try simp only [c44, w44, stV, slotsO, thingsO, Nat.add_assoc, Cap.cells, he, hcg, go_sem]); repeat' ((first | refine orR ?_ | (refine sp ?_ ?_ <;> intro hc) | refine call_Good_spec (c := ⟨13, a, b, x, y, w⟩) (kA _) (kB _) ?_ | refine find_Cap_spec (kS _) (kT _) (kA _) ?_ | refine cap_Word_spec (c := (fCap s th a).2.1) hgc ?_ | refine state_Forest_spec (s := s) (kS _) (lS_of hgood) ?_ | refine forest_Depth_x (up := sForest s) hlF (by first | exact at0 | exact atX rfl) (lS_of hgood) ?_) <;> try simp only [*, w44, stV, slotsO, thingsO, Nat.add_assoc, Cap.cells, he, hcg, go_sem])
   exact Gc.old (hv _ _ _) h
  ·have e : (bif !decide ((fCap s th a).2.2 = 0) then Res.bad (fCap s th a).2.2 else ⟨0, cWord (fCap s th a).2.1, fDepth (sForest s) (fCap s th a).1, none⟩) = Res.bad (fCap s th a).2.2 := by rw [decide_eq_false he]; rfl
   rw [e] at h
   refine ACalls.gc ?_
   refine into ok44 ?_; (try simp only [c44, w44, stV, slotsO, thingsO, Nat.add_assoc, Cap.cells, he, hcg, go_sem]); repeat' ((first | refine orR ?_ | (refine sp ?_ ?_ <;> intro hc) | refine call_Good_spec (c := ⟨13, a, b, x, y, w⟩) (kA _) (kB _) ?_ | refine find_Cap_spec (kS _) (kT _) (kA _) ?_) <;> try simp only [*, w44, stV, slotsO, thingsO, Nat.add_assoc, Cap.cells, he, hcg, go_sem])
   exact Gc.old (hv _ _ _) h
end
end Go.Proofs.YtlaipllgmddkiaaGreat.Ax
namespace Go.Proofs.YtlaipllgmddkiaaGreat.Ax
open Go Go.Ax Go.Ax.M
section
variable {H : Heap} {K : AVal → Heap → Prop}
theorem shl64 {n : Int} (h0 : 0 ≤ n) (h1 : n < 64) : aShift .shl .u64 1 n = some (.int .u64 (p2 n)) := by
 obtain ⟨k, rfl⟩ : ∃ k : Nat, n = k := ⟨n.toNat, by omega⟩
 have hk : k < 64 := by omega
 have e : min k 64 = k := by omega
 have hp : (2 : Nat) ^ k < 2 ^ 64 := Nat.pow_lt_pow_right (by decide) hk
 have h2 : ((2 : Int) ^ k) = ((2 ^ k : Nat) : Int) := by rw [Int.natCast_pow]; rfl
 simp only [aShift, show ¬ ((k : Int) < 0) by omega, if_false, IntKind.bits, Int.one_mul, p2, Int.toNat_natCast, e, h2]
 congr 2
 generalize (2 : Nat) ^ k = m at *
 simp [IntKind.wrap, IntKind.bits, IntKind.signed]; omega
theorem bell_Do_spec : DoSpec 38 bellM := by
 intro H K s th c oS oT oA oB fS fT rS rT fA fB rA rB hS hT hA hB h h'
 have kT := Keeps.of hT
 have kS := Keeps.of hS
 have kA := Keeps.of hA
 have kB := Keeps.of hB
 have key : ∀ e, bellM s th c = .bad e → K (.tup [stA s oS oT fS fT, .agg [.int .i64 e, .int .u64 0, .int .i64 0]]) H := fun e he => by rw [he] at h; exact h rfl
 have hv := fun e => show (AVal.tup [stA s oS oT fS fT, .agg [.int .i64 e, .int .u64 0, .int .i64 0]]).refs (fun o => o < H.length) by simp [AVal.refs, refsL]; exact ⟨get_lt hS, get_lt hT⟩
 clear h
 have hroom : (fCap s th c.a).2.2 = 0 → _ := fun h => there_get (fCap_there h)
 have hgood : (fCap s th c.a).2.2 = 0 → sGood s = true := fun h => (fCap_ok h).1.ok.good
 have hsh : (fCap s th c.a).2.2 = 0 → aShift .shl .u64 1 ((fCap s th c.a).2.1.ba.tmod 64) = some (.int .u64 (p2 ((fCap s th c.a).2.1.ba.tmod 64))) := fun h => by
  have hba := cGood_ba (fCap_box h).2.2.2
  have := Int.tmod_lt_of_pos (fCap s th c.a).2.1.ba (show (0 : Int) < 64 by decide)
  exact shl64 (Int.tmod_nonneg _ hba.1) this
 refine ACalls.gc ?_
 refine into ok38 ?_; (try simp only [c38, w38, stV, slotsO, thingsO, Nat.add_assoc, Cap.cells, hroom, hsh, Option.map_some, List.length_set, go_sem]); repeat' ((first | refine orR ?_ | (refine sp ?_ ?_ <;> intro hc) | refine call_Good_spec (kA _) (kB _) ?_ | refine find_Cap_spec (kS _) (kT _) (kA _) ?_ | refine right_Within_spec ?_ | refine state_Clone_spec (kS _) (kT _) (lS_of (hgood (by assumption))) (lT_of (hgood (by assumption))) (lS0_of (hgood (by assumption))) (lT0_of (hgood (by assumption))) ?_) <;> try simp only [*, w38, stV, slotsO, thingsO, Nat.add_assoc, Cap.cells, hroom, hsh, Option.map_some, List.length_set, go_sem])
 all_goals try exact Gc.old (hv _) (key _ (by (first | (simp only [bellM, *, bs, go_sem]; done) | (simp_all [bellM]; done) | (simp_all [bellM]; omega) | grind [bellM])))
 case' refine_1.refine_1.refine_2.refine_2.refine_2.refine_2.refine_2 =>
  obtain ⟨t, ht⟩ : ∃ t, t = { s.thing (fCap s th c.a).2.1.th.toNat with word := 0 } := ⟨_, rfl⟩
  have e : bellM s th c = ⟨0, (s.thing (fCap s th c.a).2.1.th.toNat).word, 0, some (boxed s (fCap s th c.a).2.1.th t)⟩ := by rw [ht]; clear h' key; (first | (simp only [bellM, *, bs, go_sem]; done) | (simp_all [bellM]; done) | (simp_all [bellM]; omega) | grind [bellM])
 case' refine_1.refine_2.refine_2.refine_2.refine_2 =>
  obtain ⟨t, ht⟩ : ∃ t, t = { s.thing (fCap s th c.a).2.1.th.toNat with word := orU (s.thing (fCap s th c.a).2.1.th.toNat).word (p2 ((fCap s th c.a).2.1.ba.tmod 64)) } := ⟨_, rfl⟩
  have e : bellM s th c = ⟨0, 0, 0, some (boxed s (fCap s th c.a).2.1.th t)⟩ := by rw [ht]; clear h' key; (first | (simp only [bellM, *, bs, go_sem]; done) | (simp_all [bellM]; done) | (simp_all [bellM]; omega) | grind [bellM])
 all_goals
  rw [e] at h'
  have h' := h' _ rfl
  refine Gc.stN (s' := boxed s (fCap s th c.a).2.1.th t) (i := 5) (j := 6) rfl ?_ (fun s' e => by injection e with e; subst e; exact h') (by decide) (by simp [AVal.plain, plains]) rfl (by simp [boxed]) ⟨rfl, rfl, rfl⟩ rfl
  rw [ht]
  simp only [thingsO, boxed, ← things_set, orU]; rfl
end
end Go.Proofs.YtlaipllgmddkiaaGreat.Ax
namespace Go.Proofs.YtlaipllgmddkiaaGreat.Ax
open Go Go.Ax Go.Ax.M
section
variable {H : Heap} {K : AVal → Heap → Prop} {s : State} {oS oT : Nat} {fS fT rS rT : Bool}
theorem carve_Used_spec {i : Int} (hS : H[oS]? = some (.arr 5 (s.slots.map Slot.cells) rS)) (hT : H[oT]? = some (.arr 13 (s.things.map Thing.cells) rT)) (h : K (.int .i64 (usedX s i)) H) : ACalls Tryz.prog 178 [stA s oS oT fS fT, .int .i64 i] H K := by
 have kT := Keeps.of hT
 have kS := Keeps.of hS
 have hg1 : ¬ i < 0 → ¬ (s.slots.length : Int) ≤ i → _ := fun h1 h2 => slot_at (s := s) (u := i) (by omega) (by omega)
 have hg2 : sGood s = true → ¬ i < 0 → ¬ (s.slots.length : Int) ≤ i → (s.slot i.toNat).cap.ty = 1 → _ := fun h0 h1 h2 h3 => there_get (((inv_iff.1 h0).capT i.toNat (by omega) (non_of (by omega))).1)
 have hl2 : sGood s = true → (sForest s).length ≤ 1000 := fun h => by rw [sForest_length]; exact lS_of h
 refine ACalls.tidy ?_
 refine into ok178 ?_; (try simp only [c178, w178, hg1, hg2, sForest_length, go_sem]); repeat' ((first | refine orR ?_ | (refine sp ?_ ?_ <;> intro hc) | refine state_Good_spec (kS _) (kT _) ?_ | refine state_Forest_spec (kS _) (lS_of (by assumption)) ?_ | (rw [← sForest_length]; refine forest_Kids_spec (up := sForest s) (by first | exact at0 | exact atX rfl) (hl2 (by assumption)) (fun hc => ?_) (fun hc => ?_))) <;> try simp only [*, w178, hg1, hg2, sForest_length, go_sem])
 all_goals (refine ti h (by first | exact ⟨_, rfl⟩ | exact ⟨[], (List.append_nil _).symm⟩ | exact hx | exact hx.app _) ?_; first | (simp only [usedX, fKids, *, bs, go_sem]; done) | (simp_all [usedX, fKids]; done) | (simp_all [usedX, fKids]; omega) | grind [usedX, fKids])
theorem tCost_le {k n : Int} : 0 ≤ (tCost k n).1 ∧ (tCost k n).1 ≤ 4096 := by
 simp only [tCost]
 by_cases e1 : k = 1
 ·simp only [e1, decide_true, cond_true]
  cases hb : inB n 1 4096 with
  | false => simp
  | true => rw [inB_iff] at hb; simp only [cond_true]; omega
 ·simp only [e1, decide_false, cond_false]
  by_cases e2 : k = 2
  ·simp only [e2, decide_true, cond_true]
   cases hb : inB n 1 4 with
   | false => simp
   | true => have := p2_bits hb; simp only [cond_true]; omega
  ·simp only [e2, decide_false, cond_false]
   cases (decide (k = 3) || decide (k = 4)) <;> cases decide (k = 5) <;> simp
theorem carveT {s : State} {n r : Nat} {T : Thing} {used : Int} (hr : r < s.things.length) (hne : n ≠ r) : ((s.things.map Thing.cells).set n T.cells).set r [.int .i64 (s.thing r).ty, .int .i64 (s.thing r).bits, .int .i64 (s.thing r).base, .int .i64 (s.thing r).size, .int .i64 used, .int .i64 (s.thing r).from_, .int .i64 (s.thing r).badge, .bool (s.thing r).full, .int .u64 (s.thing r).word, .int .u64 (s.thing r).d0, .int .u64 (s.thing r).d1, .int .u64 (s.thing r).d2, .int .u64 (s.thing r).d3] =
 ((s.things.set n T).set r { ((s.things.set n T).getD r .zero) with used := used }).map Thing.cells := by
 have e : (s.things.set n T).getD r .zero = s.thing r := by simp only [List.getD, List.getElem?_set_ne hne, State.thing]
 rw [e, List.map_set, List.map_set]; rfl
theorem carve_carved_spec {th : Int} {c : M.Call} {oA oB : Nat} {fA fB rA rB : Bool} (hS : H[oS]? = some (.arr 5 (s.slots.map Slot.cells) rS)) (hT : H[oT]? = some (.arr 13 (s.things.map Thing.cells) rT)) (hA : H[oA]? = some (.arr 1 (ints c.a) rA)) (hB : H[oB]? = some (.arr 1 (ints c.b) rB))
 (h : (carveM s th c).st = none → K (.tup [stA s oS oT fS fT, .int .i64 0, .int .i64 (carveM s th c).err]) H)
 (h' : ∀ s', (carveM s th c).st = some s' → K (.tup [stV s' H.length (H.length + 1) false false, .int .i64 (carveM s th c).n, .int .i64 0]) (H ++ [slotsO s', thingsO s'])) :
 ACalls Tryz.prog 100 [stA s oS oT fS fT, .int .i64 th, .agg [.int .i64 c.op, .slice oA c.a.length 0 c.a.length fA, .slice oB c.b.length 0 c.b.length fB, .int .i64 c.x, .int .i64 c.y, .int .u64 c.w]] H K := by
 have kT := Keeps.of hT
 have kS := Keeps.of hS
 have kA := Keeps.of hA
 have kB := Keeps.of hB
 have key : ∀ e, carveM s th c = .bad e → K (.tup [stA s oS oT fS fT, .int .i64 0, .int .i64 e]) H := fun e he => by rw [he] at h; exact h rfl
 have hv := fun e => show (AVal.tup [stA s oS oT fS fT, .int .i64 0, .int .i64 e]).refs (fun o => o < H.length) by simp [AVal.refs, refsL]; exact ⟨get_lt hS, get_lt hT⟩
 clear h
 have hroom : (fCap s th c.a).2.2 = 0 → _ := fun h => there_get (fCap_there h)
 have hwu : (fCap s th c.a).2.2 = 0 → (fCap s th c.a).2.1.ty = 1 → IntKind.wrap .i64 (usedX s (fCap s th c.a).1 + (tCost c.x c.y).1) = usedX s (fCap s th c.a).1 + (tCost c.x c.y).1 := fun h1 h2 => by
  obtain ⟨i1, i2, i3, i4, i5, i6⟩ := fCap_ok h1
  have := usedX_ok i1 i2 i3 (by rw [← i4]; exact h2)
  have := tCost_le (k := c.x) (n := c.y)
  exact w64 (by omega) (by omega)
 have hfr : ¬ sFree s < 0 → (0 ≤ sFree s) = True ∧ (sFree s < (s.things.length : Int)) = True := fun h => by
  have := sFree_ok (s := s) (by omega)
  exact ⟨eq_true (by omega), eq_true (by omega)⟩
 refine ACalls.gc ?_
 refine into ok100 ?_; (try simp only [c100, w100, stV, slotsO, thingsO, Nat.add_assoc, Cap.cells, Thing.cells, hroom, hwu, hfr, List.length_set, go_sem]); repeat' ((first | refine orR ?_ | (refine sp ?_ ?_ <;> intro hc) | refine call_Good_spec (kA _) (kB _) ?_ | refine find_Cap_spec (kS _) (kT _) (kA _) ?_ | refine find_Empty_spec (kS _) (kT _) (kB _) ?_ | refine right_Within_spec ?_ | refine thing_Cost_spec ?_ | refine carve_Used_spec (kS _) (kT _) ?_ | refine state_Free_spec (kS _) (kT _) ?_ | refine state_Gap_spec (kS _) (kT _) ?_) <;> try simp only [*, w100, stV, slotsO, thingsO, Nat.add_assoc, Cap.cells, Thing.cells, hroom, hwu, hfr, List.length_set, go_sem])
 all_goals try exact Gc.old (hv _) (key _ (by (first | (simp only [carveM, carveIn, carveN, *, bs, go_sem]; done) | (simp_all [carveM, carveIn, carveN]; done) | (simp_all [carveM, carveIn, carveN]; omega) | grind [carveM, carveIn, carveN])))
 all_goals
  have he : ∃ b, carveM s th c = ⟨0, 0, sFree s, some (carveS s c (fCap s th c.a).1 (fEmpty s th c.b).1 (usedX s (fCap s th c.a).1 + (tCost c.x c.y).1) (sFree s) b (fCap s th c.a).2.1)⟩ ∧ b = (carveN c s).1 := ⟨_, by clear h' key hv; (first | (simp only [carveM, carveIn, carveN, *, bs, go_sem]; done) | (simp_all [carveM, carveIn, carveN]; done) | (simp_all [carveM, carveIn, carveN]; omega) | grind [carveM, carveIn, carveN]), rfl⟩
  clear key hv
  obtain ⟨bs, he, hbs⟩ := he
  have h' := h' _ (by rw [he])
  rw [he] at h'
  simp only at h'
  obtain ⟨y, hy⟩ : ∃ y, Hid (y = carveS s c (fCap s th c.a).1 (fEmpty s th c.b).1 (usedX s (fCap s th c.a).1 + (tCost c.x c.y).1) (sFree s) bs (fCap s th c.a).2.1) := hide _
  have hy' : y = _ := hy
  rw [← hy'] at h'
  obtain ⟨i1, i2, i3, i4, i5, i6⟩ := fCap_ok (s := s) (th := th) (p := c.a) (by assumption)
  obtain ⟨-, j2, j3, j4, j5, j6⟩ := fEmpty_ok (s := s) (th := th) (p := c.b) (by assumption)
  have hsl := slot_at (s := s) j2 j3
  have hsf := sFree_ok (s := s) (by omega)
  have hrt := fCap_there (s := s) (th := th) (p := c.a) (by assumption)
  rw [there_iff] at hrt
  have hr1 : (s.thing (fCap s th c.a).2.1.th.toNat).ty = 1 := by
   have := (i1.capT _ (by omega) i5).2
   rw [← i4] at this; rw [this]; assumption
  have hne : (sFree s).toNat ≠ (fCap s th c.a).2.1.th.toNat := by intro e; rw [e] at hsf; omega
  have hgn := things_get (s := s) hsf.1
  have hgr : ∀ X, ((s.things.map Thing.cells).set (sFree s).toNat X)[(fCap s th c.a).2.1.th.toNat]? = some (s.thing (fCap s th c.a).2.1.th.toNat).cells := fun X => by
   rw [List.getElem?_set_ne hne]; exact things_get (by omega)
  have hgood := i1.ok.good
  have hct := carveT (s := s) (T := (tNew c.x c.y bs).1) (used := usedX s (fCap s th c.a).1 + (tCost c.x c.y).1) (show (fCap s th c.a).2.1.th.toNat < s.things.length by omega) hne
  have hyS : y.slots.length = s.slots.length := by rw [hy']; simp [carveS]
  have hyT : y.things.length = s.things.length := by rw [hy']; simp [carveS]
  have hyg : y.geo = s.geo := by rw [hy']; rfl
  have hy1 : y.slots.map Slot.cells = (s.slots.map Slot.cells).set (fEmpty s th c.b).1.toNat [.int .i64 c.x, .int .i64 (sFree s), .int .i64 7, .int .i64 0, .int .i64 (fCap s th c.a).1] := by rw [hy']; simp only [carveS, ← slots_set]; rfl
  have hy2 := (hct.trans (show _ = y.things.map Thing.cells by rw [hy']; rfl)).symm
  have hyh := And.intro hy1 hy2
  have hyh : Hid _ := hyh
  have hyl := And.intro hyS (And.intro hyT hyg)
  have hyl : Hid _ := hyl
  clear hct hy' hy1 hy2 hyS hyT hyg he i1 i2 i3 i4 i5 i6 j2 j3 j4 j5 j6 hsf hrt hr1
 all_goals
  (try simp only [w100, stV, slotsO, thingsO, Nat.add_assoc, Cap.cells, Thing.cells, hroom, hwu, hfr, hsl, hgn, hgr, List.length_set, go_sem]); repeat' ((first | refine orR ?_ | (refine sp ?_ ?_ <;> intro hc) | refine state_Clone_spec (kS _) (kT _) (lS_of hgood) (lT_of hgood) (lS0_of hgood) (lT0_of hgood) ?_ | refine thing_New_spec ?_) <;> try simp only [*, w100, stV, slotsO, thingsO, Nat.add_assoc, Cap.cells, Thing.cells, hroom, hwu, hfr, hsl, hgn, hgr, List.length_set, go_sem])
  obtain ⟨hy1, hy2⟩ := hyh
  obtain ⟨hyS, hyT, hyg⟩ := hyl
  first
   | (have hx : c.x = 2 := by assumption
      simp only [hbs, carveN, hx, Thing.cells, decide_true, cond_true] at hy1 hy2
      rw [← hyS, ← hyT, ← hyg]
      refine Gc.stateT (s := y) (i := 4) (j := 5) ?_ ?_ (by decide) (by simp [AVal.plain, plains]) h'
      ·simp only [slotsO]; rw [hy1]; rfl
      ·simp only [thingsO]; rw [hy2]; rfl)
   | (have hx : ¬ c.x = 2 := by assumption
      simp only [hbs, carveN, hx, Thing.cells, decide_false, cond_false] at hy1 hy2
      rw [← hyS, ← hyT, ← hyg]
      refine Gc.stateT (s := y) (i := 4) (j := 5) ?_ ?_ (by decide) (by simp [AVal.plain, plains]) h'
      ·simp only [slotsO]; rw [hy1]; rfl
      ·simp only [thingsO]; rw [hy2]; rfl)
theorem carve_Do_spec : DoSpec 26 carveM := by
 intro H K s th c oS oT oA oB fS fT rS rT fA fB rA rB hS hT hA hB h h'
 have kT := Keeps.of hT
 have kS := Keeps.of hS
 have kA := Keeps.of hA
 have kB := Keeps.of hB
 have hn : (carveM s th c).st = none → ((carveM s th c).err = 0) = False := fun h => eq_false (carveM_none h)
 refine ACalls.gc ?_
 refine into ok26 ?_; (try simp only [c26, w26, stV, slotsO, thingsO, Nat.add_assoc, hn, go_sem]); repeat' ((first | refine orR ?_ | (refine sp ?_ ?_ <;> intro hc) | refine carve_carved_spec (kS _) (kT _) (kA _) (kB _) (fun hc => ?_) (fun s' hc => ?_)) <;> try simp only [*, w26, stV, slotsO, thingsO, Nat.add_assoc, hn, go_sem])
 ·obtain ⟨e, -, he⟩ := carveM_bad (s := s) (th := th) (c := c) (by assumption)
  have h := h (by rw [he]; rfl)
  rw [he] at h ⊢
  exact Gc.old (by simp [AVal.refs, refsL]; exact ⟨get_lt hS, get_lt hT⟩) h
 ·exact Gc.stN (i := 4) (j := 5) rfl rfl (r := (carveM s th c).st) (fun s' e => by have := h' s' e; have e2 := (carveM_some e).2.2.2.2.2.2.2.2.2.1; rw [e2] at this ⊢; exact this) (hn := rfl) (hm := rfl) (e := by assumption)
end
end Go.Proofs.YtlaipllgmddkiaaGreat.Ax
