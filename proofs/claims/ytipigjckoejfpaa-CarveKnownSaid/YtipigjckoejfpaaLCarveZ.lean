/- The laws of new things, walked. Conditions: none. -/
import Derived.Test.YtipigjckoejfpaaSLawB15Z
import Derived.Test.YtipigjckoejfpaaSCarveZ
import Derived.Test.YtipigjckoejfpaaSArgZ
set_option linter.unusedSimpArgs false
set_option linter.unusedVariables false
namespace Go.Proofs.Ytipigjckoejfpaa.Ax
open Go Go.Ax Go.Ax.M
set_option linter.unusedSimpArgs false
set_option linter.unusedVariables false
set_option maxRecDepth 100000
section
variable {H : Heap} {K : AVal → Heap → Prop}

/-- The first state with a bell. -/
def A15 : State := carveS S0 ⟨1, [0], [3], 4, 0, 0⟩ 0 3 1 4 0 ⟨1, 0, 7, 0⟩
theorem awake15_spec (h : K (.bool true) H) : ACalls Try.prog 18 [] H K := by
  have f1 : A15.slots.length = 32 := by kernel_rfl
  have f2 : (A15.slots.map Slot.cells)[3]? = some [.int .i64 4, .int .i64 4, .int .i64 7, .int .i64 0, .int .i64 0] := by kernel_rfl
  have f3 : A15.things.length = 16 := by kernel_rfl
  have f4 : (A15.things.map Thing.cells)[4]? = some [.int .i64 4, .int .i64 0, .int .i64 0, .int .i64 0, .int .i64 0, .int .i64 0, .int .i64 0, .bool false, .int .u64 0, .int .u64 0, .int .u64 0, .int .u64 0, .int .u64 0] := by kernel_rfl
  refine ACalls.tidy ?_
  refine ACalls.into ok18 (Nat.le_of_ble_eq_true rfl) ?_; (try simp only [c18, wpx_of k18_0.eq_1, wpx_of k18_1.eq_1, stV, slotsO, thingsO, Nat.add_assoc, f1, f2, f3, f4, Int.cast_ofNat_Int, decide_true, cond_true, go_sem]); repeat' ((first
    | refine And.intro (Or.inr rfl) ?_
    | ((first | refine cB ?_ ?_ | refine gT ?_ ?_ | refine gF ?_ ?_ | refine dT ?_ ?_ | refine dF ?_ ?_) <;> intro hc)
    | refine first15_spec ?_
    | refine way15_spec (by first | exact at0 | exact at1 | exact at2 | exact at3 | exact at4 | exact at5 | exact at6 | exact at7 | exact at8 | exact at9 | exact at10 | exact at11 | exact at12 | exact at13 | exact at14 | exact at15 | exact at16 | exact atX rfl) ?_
    | refine DoSpec.som carve_Do_spec (s := S0) (c := ⟨1, [0], [3], 4, 0, 0⟩) (e := 0) (w := 0) (n := 4) (s' := A15) (by kernel_rfl) (by first | exact at0 | exact at1 | exact at2 | exact at3 | exact at4 | exact at5 | exact at6 | exact at7 | exact at8 | exact at9 | exact at10 | exact at11 | exact at12 | exact at13 | exact at14 | exact at15 | exact at16 | exact atX rfl) (by first | exact at0 | exact at1 | exact at2 | exact at3 | exact at4 | exact at5 | exact at6 | exact at7 | exact at8 | exact at9 | exact at10 | exact at11 | exact at12 | exact at13 | exact at14 | exact at15 | exact at16 | exact atX rfl) (by first | exact at0 | exact at1 | exact at2 | exact at3 | exact at4 | exact at5 | exact at6 | exact at7 | exact at8 | exact at9 | exact at10 | exact at11 | exact at12 | exact at13 | exact at14 | exact at15 | exact at16 | exact atX rfl) (by first | exact at0 | exact at1 | exact at2 | exact at3 | exact at4 | exact at5 | exact at6 | exact at7 | exact at8 | exact at9 | exact at10 | exact at11 | exact at12 | exact at13 | exact at14 | exact at15 | exact at16 | exact atX rfl) ?_) <;> try simp only [*, wpx_of k18_0.eq_1, wpx_of k18_1.eq_1, stV, slotsO, thingsO, Nat.add_assoc, f1, f2, f3, f4, Int.cast_ofNat_Int, decide_true, cond_true, go_sem])
  all_goals first | exact ⟨rfl, _, rfl⟩ | exact tb h ⟨_, rfl⟩ rfl

theorem carveRoom_law (H : Heap) (bs : List AVal) (h : ArgShapes Try.prog H 8 [27, 3, 35] bs) : ACalls Try.prog 6 bs H fun v _ => v = .bool true := by
  obtain ⟨a1, l, rfl, h1, h⟩ := argShapes_cons h
  obtain ⟨a2, l, rfl, h2, h⟩ := argShapes_cons h
  obtain ⟨a3, l, rfl, h3, h⟩ := argShapes_cons h
  obtain rfl := argShapes_nil h
  obtain ⟨s, oS, oT, rfl, hS, hT⟩ := arg_state h1
  obtain ⟨th, rfl, -⟩ := h2.int Try.underlying3
  obtain ⟨c, oA, oB, rfl, hA, hB⟩ := arg_call h3
  clear h1 h2 h3 h
  have kS := Keeps.of hS
  have kT := Keeps.of hT
  have kA := Keeps.of hA
  have kB := Keeps.of hB
  have hss : ∀ s, sSame s s = true := fun s => sSame_iff.2 rfl
  obtain ⟨op, a, b, x0, y0, w0⟩ := c
  simp only at hA hB kA kB ⊢
  by_cases hop : op = 1
  rotate_left
  · have h1 : (op = 1) = False := eq_false hop
    refine ACalls.into ok6 (Nat.le_of_ble_eq_true rfl) ?_; (try simp only [c6, wpx_of k6_0.eq_1, wpx_of k6_1.eq_1, wpx_of k6_2.eq_1, wpx_of k6_3.eq_1, wpx_of k6_4.eq_1, wpx_of k6_5.eq_1, wpx_of k6_6.eq_1, wpx_of k6_7.eq_1, wpx_of k6_8.eq_1, wpx_of k6_10.eq_1, wpx_of k6_11.eq_1, wpx_of k6_13.eq_1, wpx_of k6_14.eq_1, wpx_of k6_15.eq_1, wpx_of k6_16.eq_1, wpx_of k6_17.eq_1, wpx_of k6_18.eq_1, wpx_of k6_19.eq_1, wpx_of k6_20.eq_1, wpx_of k6_21.eq_1, stV, slotsO, thingsO, Nat.add_assoc, h1, go_sem]); repeat' ((first
    | refine And.intro (Or.inr rfl) ?_
    | ((first | refine cB ?_ ?_ | refine gT ?_ ?_ | refine gF ?_ ?_ | refine dT ?_ ?_ | refine dF ?_ ?_) <;> intro hc)
    | refine awake15_spec ?_
    | refine heavy15_spec (c := ⟨op, a, b, x0, y0, w0⟩) ?_
    | refine state_Good_spec (kS _) (kT _) ?_) <;> try simp only [*, wpx_of k6_0.eq_1, wpx_of k6_1.eq_1, wpx_of k6_2.eq_1, wpx_of k6_3.eq_1, wpx_of k6_4.eq_1, wpx_of k6_5.eq_1, wpx_of k6_6.eq_1, wpx_of k6_7.eq_1, wpx_of k6_8.eq_1, wpx_of k6_10.eq_1, wpx_of k6_11.eq_1, wpx_of k6_13.eq_1, wpx_of k6_14.eq_1, wpx_of k6_15.eq_1, wpx_of k6_16.eq_1, wpx_of k6_17.eq_1, wpx_of k6_18.eq_1, wpx_of k6_19.eq_1, wpx_of k6_20.eq_1, wpx_of k6_21.eq_1, stV, slotsO, thingsO, Nat.add_assoc, h1, go_sem])
  subst hop
  have hn : (carveM s th ⟨1, a, b, x0, y0, w0⟩).st = none → ((carveM s th ⟨1, a, b, x0, y0, w0⟩).err = 0) = False := fun h => eq_false (carveM_none h)
  have hse : ∀ x, (carveM s th ⟨1, a, b, x0, y0, w0⟩).st = some x → carveM s th ⟨1, a, b, x0, y0, w0⟩ = ⟨0, 0, sFree s, some x⟩ ∧ (tCost x0 y0).2 = true ∧ (((x.things.length : Int) = (s.things.length : Int)) = True) ∧ (((x.slots.length : Int) = (s.slots.length : Int)) = True) ∧ (sFree s < 0) = False ∧ ((s.things.length : Int) ≤ sFree s) = False := fun x h => by
    obtain ⟨g1, g2, g3, g4, g5, g6, g7, g8, g9, g10, g11⟩ := carveM_some h
    obtain ⟨T, R, m, -, -⟩ := carve_makes h
    have := sFree_ok g8
    exact ⟨g10, g6, eq_true (by rw [m.hT]), eq_true (by rw [m.hS]), eq_false (by omega), eq_false (by omega)⟩
  refine ACalls.into ok6 (Nat.le_of_ble_eq_true rfl) ?_; (try simp only [c6, wpx_of k6_0.eq_1, wpx_of k6_1.eq_1, wpx_of k6_2.eq_1, wpx_of k6_3.eq_1, wpx_of k6_4.eq_1, wpx_of k6_5.eq_1, wpx_of k6_6.eq_1, wpx_of k6_7.eq_1, wpx_of k6_8.eq_1, wpx_of k6_10.eq_1, wpx_of k6_11.eq_1, wpx_of k6_13.eq_1, wpx_of k6_14.eq_1, wpx_of k6_15.eq_1, wpx_of k6_16.eq_1, wpx_of k6_17.eq_1, wpx_of k6_18.eq_1, wpx_of k6_19.eq_1, wpx_of k6_20.eq_1, wpx_of k6_21.eq_1, stV, slotsO, thingsO, Nat.add_assoc, Res.reply, hn, hss, go_sem]); repeat' ((first
    | refine And.intro (Or.inr rfl) ?_
    | ((first | refine cB ?_ ?_ | refine gT ?_ ?_ | refine gF ?_ ?_ | refine dT ?_ ?_ | refine dF ?_ ?_) <;> intro hc)
    | refine awake15_spec ?_
    | refine heavy15_spec (c := ⟨1, a, b, x0, y0, w0⟩) ?_
    | refine state_Good_spec (kS _) (kT _) ?_
    | refine carve_Do_spec (c := ⟨1, a, b, x0, y0, w0⟩) (kS _) (kT _) (kA _) (kB _) (fun hc => ?_) (fun x hc => (fun e => ?_) (hse x hc))
    | refine state_Same_spec (kS _) (kT _) (kS _) (kT _) (lS_of (by assumption)) (lT_of (by assumption)) ?_
    | refine thing_Cost_spec ?_) <;> try simp only [*, wpx_of k6_0.eq_1, wpx_of k6_1.eq_1, wpx_of k6_2.eq_1, wpx_of k6_3.eq_1, wpx_of k6_4.eq_1, wpx_of k6_5.eq_1, wpx_of k6_6.eq_1, wpx_of k6_7.eq_1, wpx_of k6_8.eq_1, wpx_of k6_10.eq_1, wpx_of k6_11.eq_1, wpx_of k6_13.eq_1, wpx_of k6_14.eq_1, wpx_of k6_15.eq_1, wpx_of k6_16.eq_1, wpx_of k6_17.eq_1, wpx_of k6_18.eq_1, wpx_of k6_19.eq_1, wpx_of k6_20.eq_1, wpx_of k6_21.eq_1, stV, slotsO, thingsO, Nat.add_assoc, Res.reply, hn, hss, go_sem])
  rename_i x hc e
  clear e
  have hg : sGood s = true := by assumption
  obtain ⟨g1, g2, g3, g4, g5, g6, g7, g8, g9, g10, g11⟩ := carveM_some hc
  obtain ⟨T, R, m, hR, hTy⟩ := carve_makes hc
  simp only at hR hTy m g9 g3 g4
  obtain ⟨d1, d2, d3, d4, d5, d6⟩ := m.td
  have hu := usedX_ok m.inv (fr := (fCap s th a).1) (fCap_ok g3).2.1 (fCap_ok g3).2.2.1 (by rw [← (fCap_ok g3).2.2.2.1]; exact g4)
  have hlS := lS_of hg
  have hlT := lT_of hg
  have hxT := m.hT
  have hxS := m.hS
  have invx := m.inv'
  clear hn hse
  generalize hN : sFree s = N at *
  have hN0 : 0 ≤ N := g8
  have hgF : fGood (sForest x) = true := invx.ok.forest
  have hres : ((tdiffs s x N.toNat s.things.length : Int) ≤ 1) = True ∧ ((tdiffN s x N.toNat s.things.length : Int) = 1) = True ∧ ((diffs s x s.slots.length : Int) = 1) = True := ⟨eq_true (by have := d1 s.things.length; omega), eq_true (by rw [d3]; rfl), eq_true (by rw [d4]; rfl)⟩
  have hRf : (s.thing (fCap s th a).2.1.th.toNat).ty = 1 ∧ (tCost x0 y0).1 ≤ R.used ∧ R.used ≤ R.size := by rw [hR]; exact ⟨m.hr1, by simp only; omega, g9⟩
  have hfl := sForest_length (s := x)
  clear g10 g11 hc g1 g2 g3 g4 g5 g6 g7 g8 g9 hR hTy hu d3 d4
  simp only [hxT, hxS]
  refine ALoop.keep [13, 11, 12, 3, 7, 8, 9] ?_; simp only [List.map_cons, List.map_nil, go_sem]
  refine ALoop.acc (fun k (n : Int × Int) => [(13, .int .i64 (k : Int)), (11, .int .i64 n.1), (12, .int .i64 n.2)]) (fun k n => _) (fun k n => n = ((tdiffs s x N.toNat k : Int), (tdiffN s x N.toNat k : Int))) s.things.length ?_ (a0 := (0, 0)) rfl
  rintro k n hk rfl next
  refine ALoop.unfold ?_
  have hw := wrap_succ (k := k) (by omega)
  have hwn : IntKind.wrap .i64 ((tdiffs s x N.toNat k : Int) + 1) = (tdiffs s x N.toNat k : Int) + 1 := by have := d1 k; exact w64 (by omega) (by omega)
  have hwm : IntKind.wrap .i64 ((tdiffN s x N.toNat k : Int) + 1) = (tdiffN s x N.toNat k : Int) + 1 := by have := d2 k; exact w64 (by omega) (by omega)
  have hg1 : k < s.things.length → _ := fun h => things_get (s := s) (k := k) h
  have hg2 : k < s.things.length → _ := fun h => things_get (s := x) (k := k) (by omega)
  rcases Nat.lt_or_ge k s.things.length with hlt | hge
  rotate_left
  · have hlk : (k < s.things.length) = False := eq_false (by omega)
    have hkl : k = s.things.length := by omega
    clear next hg1 hg2 hwn hwm hge
    subst hkl
    clear hlk hk
    have hlk : ((s.things.length : Int) < (s.things.length : Int)) = False := eq_false (by omega)
    (try simp only [wpx_of k6_0.eq_1, wpx_of k6_1.eq_1, wpx_of k6_2.eq_1, wpx_of k6_3.eq_1, wpx_of k6_4.eq_1, wpx_of k6_5.eq_1, wpx_of k6_6.eq_1, wpx_of k6_7.eq_1, wpx_of k6_8.eq_1, wpx_of k6_10.eq_1, wpx_of k6_11.eq_1, wpx_of k6_13.eq_1, wpx_of k6_14.eq_1, wpx_of k6_15.eq_1, wpx_of k6_16.eq_1, wpx_of k6_17.eq_1, wpx_of k6_18.eq_1, wpx_of k6_19.eq_1, wpx_of k6_20.eq_1, wpx_of k6_21.eq_1, wpx_of b6_9.eq_1, hlk, hxT, hxS, kS, kT, List.cons_append, List.nil_append, go_sem]); repeat' ((first
    | refine And.intro (Or.inr rfl) ?_
    | ((first | refine cB ?_ ?_ | refine gT ?_ ?_ | refine gF ?_ ?_ | refine dT ?_ ?_ | refine dF ?_ ?_) <;> intro hc)) <;> try simp only [*, wpx_of k6_0.eq_1, wpx_of k6_1.eq_1, wpx_of k6_2.eq_1, wpx_of k6_3.eq_1, wpx_of k6_4.eq_1, wpx_of k6_5.eq_1, wpx_of k6_6.eq_1, wpx_of k6_7.eq_1, wpx_of k6_8.eq_1, wpx_of k6_10.eq_1, wpx_of k6_11.eq_1, wpx_of k6_13.eq_1, wpx_of k6_14.eq_1, wpx_of k6_15.eq_1, wpx_of k6_16.eq_1, wpx_of k6_17.eq_1, wpx_of k6_18.eq_1, wpx_of k6_19.eq_1, wpx_of k6_20.eq_1, wpx_of k6_21.eq_1, wpx_of b6_9.eq_1, hlk, hxT, hxS, kS, kT, List.cons_append, List.nil_append, go_sem])
    refine ALoop.keep [15, 14, 3, 7, 8, 11, 12] ?_; simp only [List.map_cons, List.map_nil, go_sem]
    refine ALoop.acc (fun k (n : Int) => [(15, .int .i64 (k : Int)), (14, .int .i64 n)]) (fun k n => _) (fun k n => n = diffs s x k) s.slots.length ?_ (a0 := 0) rfl
    rintro k n hk rfl next
    refine ALoop.unfold ?_
    have hw := wrap_succ (k := k) (by omega)
    have hwn : IntKind.wrap .i64 ((diffs s x k : Int) + 1) = (diffs s x k : Int) + 1 := by have := d5 k; exact w64 (by omega) (by omega)
    have hg1 : k < s.slots.length → _ := fun h => slots_get (s := s) (k := k) h
    have hg2 : k < s.slots.length → _ := fun h => slots_get (s := x) (k := k) (by omega)
    rcases Nat.lt_or_ge k s.slots.length with hlt | hge
    · cases hq : slEq (x.slot k) (s.slot k) with
      | true =>
        have hq' := hq
        rw [slEq_def] at hq'
        (try simp only [wpx_of k6_0.eq_1, wpx_of k6_1.eq_1, wpx_of k6_2.eq_1, wpx_of k6_3.eq_1, wpx_of k6_4.eq_1, wpx_of k6_5.eq_1, wpx_of k6_6.eq_1, wpx_of k6_7.eq_1, wpx_of k6_8.eq_1, wpx_of k6_10.eq_1, wpx_of k6_11.eq_1, wpx_of k6_13.eq_1, wpx_of k6_14.eq_1, wpx_of k6_15.eq_1, wpx_of k6_16.eq_1, wpx_of k6_17.eq_1, wpx_of k6_18.eq_1, wpx_of k6_19.eq_1, wpx_of k6_20.eq_1, wpx_of k6_21.eq_1, wpx_of b6_12.eq_1, hlt, nlt_iff, n0_le, hw, hwn, hg1, hg2, hxS, hq', kS, kT, List.cons_append, List.nil_append, go_sem]); repeat' ((first
    | refine And.intro (Or.inr rfl) ?_
    | ((first | refine cB ?_ ?_ | refine gT ?_ ?_ | refine gF ?_ ?_ | refine dT ?_ ?_ | refine dF ?_ ?_) <;> intro hc)) <;> try simp only [*, wpx_of k6_0.eq_1, wpx_of k6_1.eq_1, wpx_of k6_2.eq_1, wpx_of k6_3.eq_1, wpx_of k6_4.eq_1, wpx_of k6_5.eq_1, wpx_of k6_6.eq_1, wpx_of k6_7.eq_1, wpx_of k6_8.eq_1, wpx_of k6_10.eq_1, wpx_of k6_11.eq_1, wpx_of k6_13.eq_1, wpx_of k6_14.eq_1, wpx_of k6_15.eq_1, wpx_of k6_16.eq_1, wpx_of k6_17.eq_1, wpx_of k6_18.eq_1, wpx_of k6_19.eq_1, wpx_of k6_20.eq_1, wpx_of k6_21.eq_1, wpx_of b6_12.eq_1, hlt, nlt_iff, n0_le, hw, hwn, hg1, hg2, hxS, hq', kS, kT, List.cons_append, List.nil_append, go_sem])
        (refine ALoop.keep [15, 14, 3, 7, 8, 11, 12] ?_; simp only [List.map_cons, List.map_nil, go_sem]; refine next _ (by omega) ?_)
        simp [diffs, List.range_succ, hq]
      | false =>
        have hq' := hq
        rw [slEq_def] at hq'
        (try simp only [wpx_of k6_0.eq_1, wpx_of k6_1.eq_1, wpx_of k6_2.eq_1, wpx_of k6_3.eq_1, wpx_of k6_4.eq_1, wpx_of k6_5.eq_1, wpx_of k6_6.eq_1, wpx_of k6_7.eq_1, wpx_of k6_8.eq_1, wpx_of k6_10.eq_1, wpx_of k6_11.eq_1, wpx_of k6_13.eq_1, wpx_of k6_14.eq_1, wpx_of k6_15.eq_1, wpx_of k6_16.eq_1, wpx_of k6_17.eq_1, wpx_of k6_18.eq_1, wpx_of k6_19.eq_1, wpx_of k6_20.eq_1, wpx_of k6_21.eq_1, wpx_of b6_12.eq_1, hlt, nlt_iff, n0_le, hw, hwn, hg1, hg2, hxS, hq', kS, kT, List.cons_append, List.nil_append, go_sem]); repeat' ((first
    | refine And.intro (Or.inr rfl) ?_
    | ((first | refine cB ?_ ?_ | refine gT ?_ ?_ | refine gF ?_ ?_ | refine dT ?_ ?_ | refine dF ?_ ?_) <;> intro hc)) <;> try simp only [*, wpx_of k6_0.eq_1, wpx_of k6_1.eq_1, wpx_of k6_2.eq_1, wpx_of k6_3.eq_1, wpx_of k6_4.eq_1, wpx_of k6_5.eq_1, wpx_of k6_6.eq_1, wpx_of k6_7.eq_1, wpx_of k6_8.eq_1, wpx_of k6_10.eq_1, wpx_of k6_11.eq_1, wpx_of k6_13.eq_1, wpx_of k6_14.eq_1, wpx_of k6_15.eq_1, wpx_of k6_16.eq_1, wpx_of k6_17.eq_1, wpx_of k6_18.eq_1, wpx_of k6_19.eq_1, wpx_of k6_20.eq_1, wpx_of k6_21.eq_1, wpx_of b6_12.eq_1, hlt, nlt_iff, n0_le, hw, hwn, hg1, hg2, hxS, hq', kS, kT, List.cons_append, List.nil_append, go_sem])
        (refine ALoop.keep [15, 14, 3, 7, 8, 11, 12] ?_; simp only [List.map_cons, List.map_nil, go_sem]; refine next _ (by omega) ?_)
        simp [diffs, List.range_succ, hq]
    · have hkl : k = s.slots.length := by omega
      clear next hg1 hg2 hwn hge
      subst hkl
      have hlk : ((s.slots.length : Int) < (s.slots.length : Int)) = False := eq_false (by omega)
      (try simp only [wpx_of k6_0.eq_1, wpx_of k6_1.eq_1, wpx_of k6_2.eq_1, wpx_of k6_3.eq_1, wpx_of k6_4.eq_1, wpx_of k6_5.eq_1, wpx_of k6_6.eq_1, wpx_of k6_7.eq_1, wpx_of k6_8.eq_1, wpx_of k6_10.eq_1, wpx_of k6_11.eq_1, wpx_of k6_13.eq_1, wpx_of k6_14.eq_1, wpx_of k6_15.eq_1, wpx_of k6_16.eq_1, wpx_of k6_17.eq_1, wpx_of k6_18.eq_1, wpx_of k6_19.eq_1, wpx_of k6_20.eq_1, wpx_of k6_21.eq_1, wpx_of b6_12.eq_1, hlk, hxT, hxS, hres, hgF, hN, kS, kT, List.cons_append, List.nil_append, go_sem]); repeat' ((first
    | refine And.intro (Or.inr rfl) ?_
    | ((first | refine cB ?_ ?_ | refine gT ?_ ?_ | refine gF ?_ ?_ | refine dT ?_ ?_ | refine dF ?_ ?_) <;> intro hc)
    | (rw [← hxS, ← hxT]; refine state_Forest_spec (s := x) (by first | exact at0 | exact at1 | exact at2 | exact at3 | exact at4 | exact at5 | exact at6 | exact at7 | exact at8 | exact at9 | exact at10 | exact at11 | exact at12 | exact at13 | exact at14 | exact at15 | exact at16 | exact atX rfl) (by omega) ?_)
    | (rw [← hxS, ← hfl]; refine forest_Good_spec (up := sForest x) (by first | exact at0 | exact at1 | exact at2 | exact at3 | exact at4 | exact at5 | exact at6 | exact at7 | exact at8 | exact at9 | exact at10 | exact at11 | exact at12 | exact at13 | exact at14 | exact at15 | exact at16 | exact atX rfl) ?_)
    | refine state_Free_spec (kS _) (kT _) ?_) <;> try simp only [*, wpx_of k6_0.eq_1, wpx_of k6_1.eq_1, wpx_of k6_2.eq_1, wpx_of k6_3.eq_1, wpx_of k6_4.eq_1, wpx_of k6_5.eq_1, wpx_of k6_6.eq_1, wpx_of k6_7.eq_1, wpx_of k6_8.eq_1, wpx_of k6_10.eq_1, wpx_of k6_11.eq_1, wpx_of k6_13.eq_1, wpx_of k6_14.eq_1, wpx_of k6_15.eq_1, wpx_of k6_16.eq_1, wpx_of k6_17.eq_1, wpx_of k6_18.eq_1, wpx_of k6_19.eq_1, wpx_of k6_20.eq_1, wpx_of k6_21.eq_1, wpx_of b6_12.eq_1, hlk, hxT, hxS, hres, hgF, hN, kS, kT, List.cons_append, List.nil_append, go_sem])
  cases hq : tEq (x.thing k) (s.thing k) with
  | true =>
    have hq' := hq
    rw [tEq_def] at hq'
    (try simp only [wpx_of k6_0.eq_1, wpx_of k6_1.eq_1, wpx_of k6_2.eq_1, wpx_of k6_3.eq_1, wpx_of k6_4.eq_1, wpx_of k6_5.eq_1, wpx_of k6_6.eq_1, wpx_of k6_7.eq_1, wpx_of k6_8.eq_1, wpx_of k6_10.eq_1, wpx_of k6_11.eq_1, wpx_of k6_13.eq_1, wpx_of k6_14.eq_1, wpx_of k6_15.eq_1, wpx_of k6_16.eq_1, wpx_of k6_17.eq_1, wpx_of k6_18.eq_1, wpx_of k6_19.eq_1, wpx_of k6_20.eq_1, wpx_of k6_21.eq_1, wpx_of b6_9.eq_1, hlt, nlt_iff, n0_le, hw, hwn, hwm, hg1, hg2, hxT, hxS, hq', kS, kT, List.cons_append, List.nil_append, go_sem]); repeat' ((first
    | refine And.intro (Or.inr rfl) ?_
    | ((first | refine cB ?_ ?_ | refine gT ?_ ?_ | refine gF ?_ ?_ | refine dT ?_ ?_ | refine dF ?_ ?_) <;> intro hc)) <;> try simp only [*, wpx_of k6_0.eq_1, wpx_of k6_1.eq_1, wpx_of k6_2.eq_1, wpx_of k6_3.eq_1, wpx_of k6_4.eq_1, wpx_of k6_5.eq_1, wpx_of k6_6.eq_1, wpx_of k6_7.eq_1, wpx_of k6_8.eq_1, wpx_of k6_10.eq_1, wpx_of k6_11.eq_1, wpx_of k6_13.eq_1, wpx_of k6_14.eq_1, wpx_of k6_15.eq_1, wpx_of k6_16.eq_1, wpx_of k6_17.eq_1, wpx_of k6_18.eq_1, wpx_of k6_19.eq_1, wpx_of k6_20.eq_1, wpx_of k6_21.eq_1, wpx_of b6_9.eq_1, hlt, nlt_iff, n0_le, hw, hwn, hwm, hg1, hg2, hxT, hxS, hq', kS, kT, List.cons_append, List.nil_append, go_sem])
    (refine ALoop.keep [13, 11, 12, 3, 7, 8, 9] ?_; simp only [List.map_cons, List.map_nil, go_sem]; refine next (_, _) (by omega) ?_)
    rw [tdiffs_succ, tdiffN_succ, hq]; simp
  | false =>
    have hq' := hq
    rw [tEq_def] at hq'
    have hkN := d6 k hq
    by_cases ek : k = N.toNat
    · have ekN : ((k : Int) = N) = True := eq_true (by omega)
      have ekd : (k = N.toNat) = True := eq_true ek
      clear ek hkN
      (try simp only [wpx_of k6_0.eq_1, wpx_of k6_1.eq_1, wpx_of k6_2.eq_1, wpx_of k6_3.eq_1, wpx_of k6_4.eq_1, wpx_of k6_5.eq_1, wpx_of k6_6.eq_1, wpx_of k6_7.eq_1, wpx_of k6_8.eq_1, wpx_of k6_10.eq_1, wpx_of k6_11.eq_1, wpx_of k6_13.eq_1, wpx_of k6_14.eq_1, wpx_of k6_15.eq_1, wpx_of k6_16.eq_1, wpx_of k6_17.eq_1, wpx_of k6_18.eq_1, wpx_of k6_19.eq_1, wpx_of k6_20.eq_1, wpx_of k6_21.eq_1, wpx_of b6_9.eq_1, hlt, nlt_iff, n0_le, hw, hwn, hwm, hg1, hg2, hxT, hxS, hq', kS, kT, ekN, List.cons_append, List.nil_append, go_sem]); repeat' ((first
    | refine And.intro (Or.inr rfl) ?_
    | ((first | refine cB ?_ ?_ | refine gT ?_ ?_ | refine gF ?_ ?_ | refine dT ?_ ?_ | refine dF ?_ ?_) <;> intro hc)) <;> try simp only [*, wpx_of k6_0.eq_1, wpx_of k6_1.eq_1, wpx_of k6_2.eq_1, wpx_of k6_3.eq_1, wpx_of k6_4.eq_1, wpx_of k6_5.eq_1, wpx_of k6_6.eq_1, wpx_of k6_7.eq_1, wpx_of k6_8.eq_1, wpx_of k6_10.eq_1, wpx_of k6_11.eq_1, wpx_of k6_13.eq_1, wpx_of k6_14.eq_1, wpx_of k6_15.eq_1, wpx_of k6_16.eq_1, wpx_of k6_17.eq_1, wpx_of k6_18.eq_1, wpx_of k6_19.eq_1, wpx_of k6_20.eq_1, wpx_of k6_21.eq_1, wpx_of b6_9.eq_1, hlt, nlt_iff, n0_le, hw, hwn, hwm, hg1, hg2, hxT, hxS, hq', kS, kT, ekN, List.cons_append, List.nil_append, go_sem])
      · (refine ALoop.keep [13, 11, 12, 3, 7, 8, 9] ?_; simp only [List.map_cons, List.map_nil, go_sem]; refine next (_, _) (by omega) ?_)
        rw [tdiffs_succ, tdiffN_succ, hq]; simp [of_eq_true ekd]
    · have ekN : ((k : Int) = N) = False := eq_false (by omega)
      obtain ⟨-, er, eR⟩ := hkN.resolve_left ek
      have hRk : ((s.thing k).ty = 1) = True ∧ ((x.thing k).used < (tCost x0 y0).1) = False ∧ ((x.thing k).size < (x.thing k).used) = False := by rw [eR, er]; exact ⟨eq_true hRf.1, eq_false (by omega), eq_false (by omega)⟩
      clear eR hRf er hkN
      (try simp only [wpx_of k6_0.eq_1, wpx_of k6_1.eq_1, wpx_of k6_2.eq_1, wpx_of k6_3.eq_1, wpx_of k6_4.eq_1, wpx_of k6_5.eq_1, wpx_of k6_6.eq_1, wpx_of k6_7.eq_1, wpx_of k6_8.eq_1, wpx_of k6_10.eq_1, wpx_of k6_11.eq_1, wpx_of k6_13.eq_1, wpx_of k6_14.eq_1, wpx_of k6_15.eq_1, wpx_of k6_16.eq_1, wpx_of k6_17.eq_1, wpx_of k6_18.eq_1, wpx_of k6_19.eq_1, wpx_of k6_20.eq_1, wpx_of k6_21.eq_1, wpx_of b6_9.eq_1, hlt, nlt_iff, n0_le, hw, hwn, hwm, hg1, hg2, hxT, hxS, hq', kS, kT, ekN, hRk, List.cons_append, List.nil_append, go_sem]); repeat' ((first
    | refine And.intro (Or.inr rfl) ?_
    | ((first | refine cB ?_ ?_ | refine gT ?_ ?_ | refine gF ?_ ?_ | refine dT ?_ ?_ | refine dF ?_ ?_) <;> intro hc)) <;> try simp only [*, wpx_of k6_0.eq_1, wpx_of k6_1.eq_1, wpx_of k6_2.eq_1, wpx_of k6_3.eq_1, wpx_of k6_4.eq_1, wpx_of k6_5.eq_1, wpx_of k6_6.eq_1, wpx_of k6_7.eq_1, wpx_of k6_8.eq_1, wpx_of k6_10.eq_1, wpx_of k6_11.eq_1, wpx_of k6_13.eq_1, wpx_of k6_14.eq_1, wpx_of k6_15.eq_1, wpx_of k6_16.eq_1, wpx_of k6_17.eq_1, wpx_of k6_18.eq_1, wpx_of k6_19.eq_1, wpx_of k6_20.eq_1, wpx_of k6_21.eq_1, wpx_of b6_9.eq_1, hlt, nlt_iff, n0_le, hw, hwn, hwm, hg1, hg2, hxT, hxS, hq', kS, kT, ekN, hRk, List.cons_append, List.nil_append, go_sem])
      · (refine ALoop.keep [13, 11, 12, 3, 7, 8, 9] ?_; simp only [List.map_cons, List.map_nil, go_sem]; refine next (_, _) (by omega) ?_)
        rw [tdiffs_succ, tdiffN_succ, hq]; simp [ek]
end
end Go.Proofs.Ytipigjckoejfpaa.Ax
