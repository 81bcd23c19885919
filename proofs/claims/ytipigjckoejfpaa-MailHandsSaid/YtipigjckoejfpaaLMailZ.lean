/- The laws of mail, walked. Conditions: none. -/
import Derived.Test.YtipigjckoejfpaaSLaw18Z
import Derived.Test.YtipigjckoejfpaaSArgZ
import Derived.Test.YtipigjckoejfpaaZPu
set_option linter.unusedSimpArgs false
set_option linter.unusedVariables false
namespace Go.Proofs.Ytipigjckoejfpaa.Ax
open Go Go.Ax Go.Ax.M
set_option linter.unusedSimpArgs false
set_option linter.unusedVariables false
set_option maxRecDepth 100000

theorem mail_Do_ok : DoSpec 16 mailM := mail_Do_spec

theorem mailRound_law (H : Heap) (bs : List AVal) (h : ArgShapes Try.prog H 8 [27, 3, 28, 29] bs) : ACalls Try.prog 3 bs H fun v _ => v = .bool true := by
  obtain ⟨a1, l, rfl, h1, h⟩ := argShapes_cons h
  obtain ⟨a2, l, rfl, h2, h⟩ := argShapes_cons h
  obtain ⟨a3, l, rfl, h3, h⟩ := argShapes_cons h
  obtain ⟨a4, l, rfl, h4, h⟩ := argShapes_cons h
  obtain rfl := argShapes_nil h
  obtain ⟨s, oS, oT, rfl, hS, hT⟩ := arg_state h1
  obtain ⟨th, rfl, -⟩ := h2.int Try.underlying3
  obtain ⟨oA, a, rfl, hA⟩ := arg_ints h3
  obtain ⟨w, rfl, -⟩ := h4.int Try.underlying29
  clear h1 h2 h3 h4 h
  have kS := Keeps.of hS
  have kT := Keeps.of hT
  have kA := Keeps.of hA
  have hn : (mailM s th ⟨7, a, [], 0, 0, w⟩).st = none → ((mailM s th ⟨7, a, [], 0, 0, w⟩).err = 0) = False := fun h => eq_false (mailM_none h)
  have hss : ∀ s, sSame s s = true := fun s => sSame_iff.2 rfl
  refine ACalls.into ok3 (Nat.le_of_ble_eq_true rfl) ?_; (try simp only [c3, wpx_of k3_0.eq_1, wpx_of k3_1.eq_1, wpx_of k3_2.eq_1, wpx_of k3_3.eq_1, wpx_of k3_4.eq_1, wpx_of k3_5.eq_1, wpx_of k3_6.eq_1, wpx_of k3_7.eq_1, wpx_of k3_8.eq_1, wpx_of k3_9.eq_1, wpx_of k3_10.eq_1, wpx_of k3_11.eq_1, wpx_of k3_12.eq_1, wpx_of k3_13.eq_1, wpx_of k3_14.eq_1, wpx_of k3_15.eq_1, stV, slotsO, thingsO, Nat.add_assoc, Res.reply, hn, hss, go_sem]); repeat' ((first
    | refine And.intro (Or.inr rfl) ?_
    | ((first | refine cB ?_ ?_ | refine gT ?_ ?_ | refine gF ?_ ?_ | refine dT ?_ ?_ | refine dF ?_ ?_) <;> intro hc)
    | refine awake18_spec ?_
    | refine way18_spec (kA _) ?_
    | refine heavy18_nil ?_
    | refine state_Good_spec (kS _) (kT _) ?_
    | refine mail_Do_ok.nil (kS _) (kT _) (kA _) (fun hc => ?_) (fun x hc => (fun e => ?_) (mail_round hc))
    | refine state_Same_spec (by first | exact kS _ | exact kT _ | exact kA _ | exact kB _ | exact kC _ | exact kD _ | exact kX _ | exact at0 | exact at1 | exact at2 | exact at3 | exact at4 | exact at5 | exact at6 | exact at7 | exact at8 | exact at9 | exact at10 | exact at11 | exact at12 | exact at13 | exact at14 | exact at15 | exact at16 | exact atX rfl) (by first | exact kS _ | exact kT _ | exact kA _ | exact kB _ | exact kC _ | exact kD _ | exact kX _ | exact at0 | exact at1 | exact at2 | exact at3 | exact at4 | exact at5 | exact at6 | exact at7 | exact at8 | exact at9 | exact at10 | exact at11 | exact at12 | exact at13 | exact at14 | exact at15 | exact at16 | exact atX rfl) (by first | exact kS _ | exact kT _ | exact kA _ | exact kB _ | exact kC _ | exact kD _ | exact kX _ | exact at0 | exact at1 | exact at2 | exact at3 | exact at4 | exact at5 | exact at6 | exact at7 | exact at8 | exact at9 | exact at10 | exact at11 | exact at12 | exact at13 | exact at14 | exact at15 | exact at16 | exact atX rfl) (by first | exact kS _ | exact kT _ | exact kA _ | exact kB _ | exact kC _ | exact kD _ | exact kX _ | exact at0 | exact at1 | exact at2 | exact at3 | exact at4 | exact at5 | exact at6 | exact at7 | exact at8 | exact at9 | exact at10 | exact at11 | exact at12 | exact at13 | exact at14 | exact at15 | exact at16 | exact atX rfl) (lS_of (by assumption)) (lT_of (by assumption)) ?_) <;> try simp only [*, wpx_of k3_0.eq_1, wpx_of k3_1.eq_1, wpx_of k3_2.eq_1, wpx_of k3_3.eq_1, wpx_of k3_4.eq_1, wpx_of k3_5.eq_1, wpx_of k3_6.eq_1, wpx_of k3_7.eq_1, wpx_of k3_8.eq_1, wpx_of k3_9.eq_1, wpx_of k3_10.eq_1, wpx_of k3_11.eq_1, wpx_of k3_12.eq_1, wpx_of k3_13.eq_1, wpx_of k3_14.eq_1, wpx_of k3_15.eq_1, stV, slotsO, thingsO, Nat.add_assoc, Res.reply, hn, hss, go_sem])
  rename_i hg x hc e
  obtain ⟨e1, e2, e3⟩ := e
  have hx : sGood x = true := (send_like hc rfl).2.1.ok.good
  rcases e3 with e3 | ⟨n, e3, e6⟩
  · (try simp only [wpx_of k3_0.eq_1, wpx_of k3_1.eq_1, wpx_of k3_2.eq_1, wpx_of k3_3.eq_1, wpx_of k3_4.eq_1, wpx_of k3_5.eq_1, wpx_of k3_6.eq_1, wpx_of k3_7.eq_1, wpx_of k3_8.eq_1, wpx_of k3_9.eq_1, wpx_of k3_10.eq_1, wpx_of k3_11.eq_1, wpx_of k3_12.eq_1, wpx_of k3_13.eq_1, wpx_of k3_14.eq_1, wpx_of k3_15.eq_1, stV, slotsO, thingsO, Nat.add_assoc, hss, Res.reply, go_sem]); repeat' ((first
    | refine And.intro (Or.inr rfl) ?_
    | ((first | refine cB ?_ ?_ | refine gT ?_ ?_ | refine gF ?_ ?_ | refine dT ?_ ?_ | refine dF ?_ ?_) <;> intro hc)
    | refine way18_spec (kA _) ?_
    | refine mail_Do_ok.nilNon e2 (by first | exact kS _ | exact kT _ | exact kA _ | exact kB _ | exact kC _ | exact kD _ | exact kX _ | exact at0 | exact at1 | exact at2 | exact at3 | exact at4 | exact at5 | exact at6 | exact at7 | exact at8 | exact at9 | exact at10 | exact at11 | exact at12 | exact at13 | exact at14 | exact at15 | exact at16 | exact atX rfl) (by first | exact kS _ | exact kT _ | exact kA _ | exact kB _ | exact kC _ | exact kD _ | exact kX _ | exact at0 | exact at1 | exact at2 | exact at3 | exact at4 | exact at5 | exact at6 | exact at7 | exact at8 | exact at9 | exact at10 | exact at11 | exact at12 | exact at13 | exact at14 | exact at15 | exact at16 | exact atX rfl) (kA _) ?_
    | refine mail_Do_ok.nilNon e3 (by first | exact kS _ | exact kT _ | exact kA _ | exact kB _ | exact kC _ | exact kD _ | exact kX _ | exact at0 | exact at1 | exact at2 | exact at3 | exact at4 | exact at5 | exact at6 | exact at7 | exact at8 | exact at9 | exact at10 | exact at11 | exact at12 | exact at13 | exact at14 | exact at15 | exact at16 | exact atX rfl) (by first | exact kS _ | exact kT _ | exact kA _ | exact kB _ | exact kC _ | exact kD _ | exact kX _ | exact at0 | exact at1 | exact at2 | exact at3 | exact at4 | exact at5 | exact at6 | exact at7 | exact at8 | exact at9 | exact at10 | exact at11 | exact at12 | exact at13 | exact at14 | exact at15 | exact at16 | exact atX rfl) (kA _) ?_
    | refine state_Same_spec (by first | exact kS _ | exact kT _ | exact kA _ | exact kB _ | exact kC _ | exact kD _ | exact kX _ | exact at0 | exact at1 | exact at2 | exact at3 | exact at4 | exact at5 | exact at6 | exact at7 | exact at8 | exact at9 | exact at10 | exact at11 | exact at12 | exact at13 | exact at14 | exact at15 | exact at16 | exact atX rfl) (by first | exact kS _ | exact kT _ | exact kA _ | exact kB _ | exact kC _ | exact kD _ | exact kX _ | exact at0 | exact at1 | exact at2 | exact at3 | exact at4 | exact at5 | exact at6 | exact at7 | exact at8 | exact at9 | exact at10 | exact at11 | exact at12 | exact at13 | exact at14 | exact at15 | exact at16 | exact atX rfl) (by first | exact kS _ | exact kT _ | exact kA _ | exact kB _ | exact kC _ | exact kD _ | exact kX _ | exact at0 | exact at1 | exact at2 | exact at3 | exact at4 | exact at5 | exact at6 | exact at7 | exact at8 | exact at9 | exact at10 | exact at11 | exact at12 | exact at13 | exact at14 | exact at15 | exact at16 | exact atX rfl) (by first | exact kS _ | exact kT _ | exact kA _ | exact kB _ | exact kC _ | exact kD _ | exact kX _ | exact at0 | exact at1 | exact at2 | exact at3 | exact at4 | exact at5 | exact at6 | exact at7 | exact at8 | exact at9 | exact at10 | exact at11 | exact at12 | exact at13 | exact at14 | exact at15 | exact at16 | exact atX rfl) (lS_of (by assumption)) (lT_of (by assumption)) ?_) <;> try simp only [*, wpx_of k3_0.eq_1, wpx_of k3_1.eq_1, wpx_of k3_2.eq_1, wpx_of k3_3.eq_1, wpx_of k3_4.eq_1, wpx_of k3_5.eq_1, wpx_of k3_6.eq_1, wpx_of k3_7.eq_1, wpx_of k3_8.eq_1, wpx_of k3_9.eq_1, wpx_of k3_10.eq_1, wpx_of k3_11.eq_1, wpx_of k3_12.eq_1, wpx_of k3_13.eq_1, wpx_of k3_14.eq_1, wpx_of k3_15.eq_1, stV, slotsO, thingsO, Nat.add_assoc, hss, Res.reply, go_sem])
  · (try simp only [wpx_of k3_0.eq_1, wpx_of k3_1.eq_1, wpx_of k3_2.eq_1, wpx_of k3_3.eq_1, wpx_of k3_4.eq_1, wpx_of k3_5.eq_1, wpx_of k3_6.eq_1, wpx_of k3_7.eq_1, wpx_of k3_8.eq_1, wpx_of k3_9.eq_1, wpx_of k3_10.eq_1, wpx_of k3_11.eq_1, wpx_of k3_12.eq_1, wpx_of k3_13.eq_1, wpx_of k3_14.eq_1, wpx_of k3_15.eq_1, stV, slotsO, thingsO, Nat.add_assoc, hss, Res.reply, go_sem]); repeat' ((first
    | refine And.intro (Or.inr rfl) ?_
    | ((first | refine cB ?_ ?_ | refine gT ?_ ?_ | refine gF ?_ ?_ | refine dT ?_ ?_ | refine dF ?_ ?_) <;> intro hc)
    | refine way18_spec (kA _) ?_
    | refine mail_Do_ok.nilNon e2 (by first | exact kS _ | exact kT _ | exact kA _ | exact kB _ | exact kC _ | exact kD _ | exact kX _ | exact at0 | exact at1 | exact at2 | exact at3 | exact at4 | exact at5 | exact at6 | exact at7 | exact at8 | exact at9 | exact at10 | exact at11 | exact at12 | exact at13 | exact at14 | exact at15 | exact at16 | exact atX rfl) (by first | exact kS _ | exact kT _ | exact kA _ | exact kB _ | exact kC _ | exact kD _ | exact kX _ | exact at0 | exact at1 | exact at2 | exact at3 | exact at4 | exact at5 | exact at6 | exact at7 | exact at8 | exact at9 | exact at10 | exact at11 | exact at12 | exact at13 | exact at14 | exact at15 | exact at16 | exact atX rfl) (kA _) ?_
    | refine mail_Do_ok.nilSom e3 (by first | exact kS _ | exact kT _ | exact kA _ | exact kB _ | exact kC _ | exact kD _ | exact kX _ | exact at0 | exact at1 | exact at2 | exact at3 | exact at4 | exact at5 | exact at6 | exact at7 | exact at8 | exact at9 | exact at10 | exact at11 | exact at12 | exact at13 | exact at14 | exact at15 | exact at16 | exact atX rfl) (by first | exact kS _ | exact kT _ | exact kA _ | exact kB _ | exact kC _ | exact kD _ | exact kX _ | exact at0 | exact at1 | exact at2 | exact at3 | exact at4 | exact at5 | exact at6 | exact at7 | exact at8 | exact at9 | exact at10 | exact at11 | exact at12 | exact at13 | exact at14 | exact at15 | exact at16 | exact atX rfl) (kA _) ?_
    | refine mail_Do_ok.nilNon e6 (by first | exact kS _ | exact kT _ | exact kA _ | exact kB _ | exact kC _ | exact kD _ | exact kX _ | exact at0 | exact at1 | exact at2 | exact at3 | exact at4 | exact at5 | exact at6 | exact at7 | exact at8 | exact at9 | exact at10 | exact at11 | exact at12 | exact at13 | exact at14 | exact at15 | exact at16 | exact atX rfl) (by first | exact kS _ | exact kT _ | exact kA _ | exact kB _ | exact kC _ | exact kD _ | exact kX _ | exact at0 | exact at1 | exact at2 | exact at3 | exact at4 | exact at5 | exact at6 | exact at7 | exact at8 | exact at9 | exact at10 | exact at11 | exact at12 | exact at13 | exact at14 | exact at15 | exact at16 | exact atX rfl) (kA _) ?_
    | refine state_Same_spec (by first | exact kS _ | exact kT _ | exact kA _ | exact kB _ | exact kC _ | exact kD _ | exact kX _ | exact at0 | exact at1 | exact at2 | exact at3 | exact at4 | exact at5 | exact at6 | exact at7 | exact at8 | exact at9 | exact at10 | exact at11 | exact at12 | exact at13 | exact at14 | exact at15 | exact at16 | exact atX rfl) (by first | exact kS _ | exact kT _ | exact kA _ | exact kB _ | exact kC _ | exact kD _ | exact kX _ | exact at0 | exact at1 | exact at2 | exact at3 | exact at4 | exact at5 | exact at6 | exact at7 | exact at8 | exact at9 | exact at10 | exact at11 | exact at12 | exact at13 | exact at14 | exact at15 | exact at16 | exact atX rfl) (by first | exact kS _ | exact kT _ | exact kA _ | exact kB _ | exact kC _ | exact kD _ | exact kX _ | exact at0 | exact at1 | exact at2 | exact at3 | exact at4 | exact at5 | exact at6 | exact at7 | exact at8 | exact at9 | exact at10 | exact at11 | exact at12 | exact at13 | exact at14 | exact at15 | exact at16 | exact atX rfl) (by first | exact kS _ | exact kT _ | exact kA _ | exact kB _ | exact kC _ | exact kD _ | exact kX _ | exact at0 | exact at1 | exact at2 | exact at3 | exact at4 | exact at5 | exact at6 | exact at7 | exact at8 | exact at9 | exact at10 | exact at11 | exact at12 | exact at13 | exact at14 | exact at15 | exact at16 | exact atX rfl) (lS_of (by assumption)) (lT_of (by assumption)) ?_) <;> try simp only [*, wpx_of k3_0.eq_1, wpx_of k3_1.eq_1, wpx_of k3_2.eq_1, wpx_of k3_3.eq_1, wpx_of k3_4.eq_1, wpx_of k3_5.eq_1, wpx_of k3_6.eq_1, wpx_of k3_7.eq_1, wpx_of k3_8.eq_1, wpx_of k3_9.eq_1, wpx_of k3_10.eq_1, wpx_of k3_11.eq_1, wpx_of k3_12.eq_1, wpx_of k3_13.eq_1, wpx_of k3_14.eq_1, wpx_of k3_15.eq_1, stV, slotsO, thingsO, Nat.add_assoc, hss, Res.reply, go_sem])

theorem mailHands_law (H : Heap) (bs : List AVal) (h : ArgShapes Try.prog H 8 [27, 3, 3, 28, 28, 28, 28] bs) : ACalls Try.prog 4 bs H fun v _ => v = .bool true := by
  obtain ⟨a1, l, rfl, h1, h⟩ := argShapes_cons h
  obtain ⟨a2, l, rfl, h2, h⟩ := argShapes_cons h
  obtain ⟨a3, l, rfl, h3, h⟩ := argShapes_cons h
  obtain ⟨a4, l, rfl, h4, h⟩ := argShapes_cons h
  obtain ⟨a5, l, rfl, h5, h⟩ := argShapes_cons h
  obtain ⟨a6, l, rfl, h6, h⟩ := argShapes_cons h
  obtain ⟨a7, l, rfl, h7, h⟩ := argShapes_cons h
  obtain rfl := argShapes_nil h
  obtain ⟨s, oS, oT, rfl, hS, hT⟩ := arg_state h1
  obtain ⟨fr, rfl, -⟩ := h2.int Try.underlying3
  obtain ⟨to, rfl, -⟩ := h3.int Try.underlying3
  obtain ⟨oA, a, rfl, hA⟩ := arg_ints h4
  obtain ⟨oB, b, rfl, hB⟩ := arg_ints h5
  obtain ⟨oC, c, rfl, hC⟩ := arg_ints h6
  obtain ⟨oD, d, rfl, hD⟩ := arg_ints h7
  clear h1 h2 h3 h4 h5 h6 h7 h
  have kS := Keeps.of hS
  have kT := Keeps.of hT
  have kA := Keeps.of hA
  have kB := Keeps.of hB
  have kC := Keeps.of hC
  have kD := Keeps.of hD
  have hn : (mailM s fr ⟨7, a, b, 0, 0, 1⟩).st = none → ((mailM s fr ⟨7, a, b, 0, 0, 1⟩).err = 0) = False := fun h => eq_false (mailM_none h)
  have hss : ∀ s, sSame s s = true := fun s => sSame_iff.2 rfl
  refine ACalls.into ok4 (Nat.le_of_ble_eq_true rfl) ?_; (try simp only [c4, wpx_of k4_0.eq_1, wpx_of k4_1.eq_1, wpx_of k4_2.eq_1, wpx_of k4_3.eq_1, wpx_of k4_4.eq_1, wpx_of k4_5.eq_1, wpx_of k4_6.eq_1, wpx_of k4_7.eq_1, wpx_of k4_9.eq_1, wpx_of k4_10.eq_1, wpx_of k4_11.eq_1, wpx_of k4_12.eq_1, wpx_of k4_13.eq_1, wpx_of k4_14.eq_1, wpx_of k4_15.eq_1, wpx_of k4_16.eq_1, wpx_of k4_17.eq_1, stV, slotsO, thingsO, Nat.add_assoc, Res.reply, hn, hss, go_sem]); repeat' ((first
    | refine And.intro (Or.inr rfl) ?_
    | ((first | refine cB ?_ ?_ | refine gT ?_ ?_ | refine gF ?_ ?_ | refine dT ?_ ?_ | refine dF ?_ ?_) <;> intro hc)
    | refine awake18_spec ?_
    | refine way18_spec (by first | exact kA _ | exact kB _ | exact kC _ | exact kD _) ?_
    | refine heavy18_spec (c := ⟨7, a, b, 0, 0, 1⟩) ?_
    | refine heavy18_spec (c := ⟨8, c, d, 0, 0, 0⟩) ?_
    | refine state_Good_spec (kS _) (kT _) ?_
    | refine mail_Do_ok (c := ⟨7, a, b, 0, 0, 1⟩) (kS _) (kT _) (kA _) (kB _) (fun hc => ?_) (fun x hc => (fun e => ?_) (send_like hc rfl))
    | refine state_Same_spec (kS _) (kT _) (kS _) (kT _) (lS_of (by assumption)) (lT_of (by assumption)) ?_) <;> try simp only [*, wpx_of k4_0.eq_1, wpx_of k4_1.eq_1, wpx_of k4_2.eq_1, wpx_of k4_3.eq_1, wpx_of k4_4.eq_1, wpx_of k4_5.eq_1, wpx_of k4_6.eq_1, wpx_of k4_7.eq_1, wpx_of k4_9.eq_1, wpx_of k4_10.eq_1, wpx_of k4_11.eq_1, wpx_of k4_12.eq_1, wpx_of k4_13.eq_1, wpx_of k4_14.eq_1, wpx_of k4_15.eq_1, wpx_of k4_16.eq_1, wpx_of k4_17.eq_1, stV, slotsO, thingsO, Nat.add_assoc, Res.reply, hn, hss, go_sem])
  rename_i hg _ _ _ _ x hc e
  obtain ⟨-, invx, -, ex, -⟩ := e
  have hgx : sGood x = true := invx.ok.good
  have hn2 : (mailM x to ⟨8, c, d, 0, 0, 0⟩).st = none → ((mailM x to ⟨8, c, d, 0, 0, 0⟩).err = 0) = False := fun h => eq_false (mailM_none h)
  (try simp only [wpx_of k4_0.eq_1, wpx_of k4_1.eq_1, wpx_of k4_2.eq_1, wpx_of k4_3.eq_1, wpx_of k4_4.eq_1, wpx_of k4_5.eq_1, wpx_of k4_6.eq_1, wpx_of k4_7.eq_1, wpx_of k4_9.eq_1, wpx_of k4_10.eq_1, wpx_of k4_11.eq_1, wpx_of k4_12.eq_1, wpx_of k4_13.eq_1, wpx_of k4_14.eq_1, wpx_of k4_15.eq_1, wpx_of k4_16.eq_1, wpx_of k4_17.eq_1, stV, slotsO, thingsO, Nat.add_assoc, Res.reply, hn2, hss, go_sem]); repeat' ((first
    | refine And.intro (Or.inr rfl) ?_
    | ((first | refine cB ?_ ?_ | refine gT ?_ ?_ | refine gF ?_ ?_ | refine dT ?_ ?_ | refine dF ?_ ?_) <;> intro hc)
    | refine mail_Do_ok (c := ⟨8, c, d, 0, 0, 0⟩) (by first | exact at0 | exact at1 | exact at2 | exact at3 | exact at4 | exact at5 | exact at6 | exact at7 | exact at8 | exact at9 | exact at10 | exact at11 | exact at12 | exact at13 | exact at14 | exact at15 | exact at16 | exact atX rfl) (by first | exact at0 | exact at1 | exact at2 | exact at3 | exact at4 | exact at5 | exact at6 | exact at7 | exact at8 | exact at9 | exact at10 | exact at11 | exact at12 | exact at13 | exact at14 | exact at15 | exact at16 | exact atX rfl) (kC _) (kD _) (fun hc => ?_) (fun y hc => (fun e => ?_) (recv_inv hc rfl))
    | refine state_Same_spec (by first | exact at0 | exact at1 | exact at2 | exact at3 | exact at4 | exact at5 | exact at6 | exact at7 | exact at8 | exact at9 | exact at10 | exact at11 | exact at12 | exact at13 | exact at14 | exact at15 | exact at16 | exact atX rfl) (by first | exact at0 | exact at1 | exact at2 | exact at3 | exact at4 | exact at5 | exact at6 | exact at7 | exact at8 | exact at9 | exact at10 | exact at11 | exact at12 | exact at13 | exact at14 | exact at15 | exact at16 | exact atX rfl) (by first | exact at0 | exact at1 | exact at2 | exact at3 | exact at4 | exact at5 | exact at6 | exact at7 | exact at8 | exact at9 | exact at10 | exact at11 | exact at12 | exact at13 | exact at14 | exact at15 | exact at16 | exact atX rfl) (by first | exact at0 | exact at1 | exact at2 | exact at3 | exact at4 | exact at5 | exact at6 | exact at7 | exact at8 | exact at9 | exact at10 | exact at11 | exact at12 | exact at13 | exact at14 | exact at15 | exact at16 | exact atX rfl) (lS_of (by assumption)) (lT_of (by assumption)) ?_) <;> try simp only [*, wpx_of k4_0.eq_1, wpx_of k4_1.eq_1, wpx_of k4_2.eq_1, wpx_of k4_3.eq_1, wpx_of k4_4.eq_1, wpx_of k4_5.eq_1, wpx_of k4_6.eq_1, wpx_of k4_7.eq_1, wpx_of k4_9.eq_1, wpx_of k4_10.eq_1, wpx_of k4_11.eq_1, wpx_of k4_12.eq_1, wpx_of k4_13.eq_1, wpx_of k4_14.eq_1, wpx_of k4_15.eq_1, wpx_of k4_16.eq_1, wpx_of k4_17.eq_1, stV, slotsO, thingsO, Nat.add_assoc, Res.reply, hn2, hss, go_sem])
  rename_i y hc e
  obtain ⟨invy, -, hyS, hyg, hyT, t, ht1, ht2⟩ := e
  have hd : ∀ k, slEq (y.slot k) (x.slot k) = false → 0 ≤ (y.slot k).up ∧ (y.slot k).up < x.slots.length ∧ (y.slot k).cap = (x.slot (y.slot k).up.toNat).cap := fun k hk => by
    have hne : y.slot k ≠ x.slot k := fun e => by rw [slEq_iff.2 e] at hk; cases hk
    have : k = t := Classical.byContradiction fun e => hne (ht1 k e)
    subst this; exact ht2 hne
  have hd1 := diffs_one ht1
  have hlx := lS_of hgx
  refine ALoop.keep [22, 21, 17, 19] ?_; simp only [List.map_cons, List.map_nil, go_sem]
  refine ALoop.acc (fun k (n : Int) => [(22, .int .i64 (k : Int)), (21, .int .i64 n)]) (fun k n => _) (fun k n => n = diffs x y k) x.slots.length ?_ (a0 := 0) rfl
  rintro k n hk rfl next
  refine ALoop.unfold ?_
  have hw := wrap_succ (k := k) (by omega)
  have hwn : IntKind.wrap .i64 ((diffs x y k : Int) + 1) = (diffs x y k : Int) + 1 := by have := hd1 k; exact w64 (by omega) (by omega)
  have hg1 : k < x.slots.length → _ := fun h => slots_get (s := x) (k := k) h
  have hg2 : k < x.slots.length → _ := fun h => slots_get (s := y) (k := k) (by omega)
  clear hc ht1 ht2
  have hgy : sGood y = true := invy.ok.good
  have hd2 : ∀ k, ((diffs x y k : Int) ≤ 1) = True := fun k => eq_true (by have := hd1 k; omega)
  cases hq : slEq (y.slot k) (x.slot k) with
  | true =>
    have hq' := hq
    rw [slEq_def] at hq'
    (try simp only [wpx_of k4_0.eq_1, wpx_of k4_1.eq_1, wpx_of k4_2.eq_1, wpx_of k4_3.eq_1, wpx_of k4_4.eq_1, wpx_of k4_5.eq_1, wpx_of k4_6.eq_1, wpx_of k4_7.eq_1, wpx_of k4_9.eq_1, wpx_of k4_10.eq_1, wpx_of k4_11.eq_1, wpx_of k4_12.eq_1, wpx_of k4_13.eq_1, wpx_of k4_14.eq_1, wpx_of k4_15.eq_1, wpx_of k4_16.eq_1, wpx_of k4_17.eq_1, wpx_of b4_8.eq_1, nlt_iff, n0_le, hw, hwn, hg1, hg2, hyS, hq', hgy, hd2, List.cons_append, List.nil_append, go_sem]); repeat' ((first
    | refine And.intro (Or.inr rfl) ?_
    | ((first | refine cB ?_ ?_ | refine gT ?_ ?_ | refine gF ?_ ?_ | refine dT ?_ ?_ | refine dF ?_ ?_) <;> intro hc)
    | (rw [← hyS, ← hyT, ← hyg]; refine state_Good_spec (s := y) (by first | exact at0 | exact at1 | exact at2 | exact at3 | exact at4 | exact at5 | exact at6 | exact at7 | exact at8 | exact at9 | exact at10 | exact at11 | exact at12 | exact at13 | exact at14 | exact at15 | exact at16 | exact atX rfl) (by first | exact at0 | exact at1 | exact at2 | exact at3 | exact at4 | exact at5 | exact at6 | exact at7 | exact at8 | exact at9 | exact at10 | exact at11 | exact at12 | exact at13 | exact at14 | exact at15 | exact at16 | exact atX rfl) ?_)) <;> try simp only [*, wpx_of k4_0.eq_1, wpx_of k4_1.eq_1, wpx_of k4_2.eq_1, wpx_of k4_3.eq_1, wpx_of k4_4.eq_1, wpx_of k4_5.eq_1, wpx_of k4_6.eq_1, wpx_of k4_7.eq_1, wpx_of k4_9.eq_1, wpx_of k4_10.eq_1, wpx_of k4_11.eq_1, wpx_of k4_12.eq_1, wpx_of k4_13.eq_1, wpx_of k4_14.eq_1, wpx_of k4_15.eq_1, wpx_of k4_16.eq_1, wpx_of k4_17.eq_1, wpx_of b4_8.eq_1, nlt_iff, n0_le, hw, hwn, hg1, hg2, hyS, hq', hgy, hd2, List.cons_append, List.nil_append, go_sem])
    (refine ALoop.keep [22, 21, 17, 19] ?_; simp only [List.map_cons, List.map_nil, go_sem]; refine next _ (by omega) ?_)
    simp [diffs, List.range_succ, hq]
  | false =>
    obtain ⟨u0, u1, u2⟩ := hd k hq
    have hu := slot_at u0 u1
    have hq' := hq
    rw [slEq_def, u2] at hq'
    (try simp only [wpx_of k4_0.eq_1, wpx_of k4_1.eq_1, wpx_of k4_2.eq_1, wpx_of k4_3.eq_1, wpx_of k4_4.eq_1, wpx_of k4_5.eq_1, wpx_of k4_6.eq_1, wpx_of k4_7.eq_1, wpx_of k4_9.eq_1, wpx_of k4_10.eq_1, wpx_of k4_11.eq_1, wpx_of k4_12.eq_1, wpx_of k4_13.eq_1, wpx_of k4_14.eq_1, wpx_of k4_15.eq_1, wpx_of k4_16.eq_1, wpx_of k4_17.eq_1, wpx_of b4_8.eq_1, nlt_iff, n0_le, hw, hwn, hg1, hg2, hyS, hq', hu, u2, hgy, hd2, List.cons_append, List.nil_append, go_sem]); repeat' ((first
    | refine And.intro (Or.inr rfl) ?_
    | ((first | refine cB ?_ ?_ | refine gT ?_ ?_ | refine gF ?_ ?_ | refine dT ?_ ?_ | refine dF ?_ ?_) <;> intro hc)
    | (rw [← hyS, ← hyT, ← hyg]; refine state_Good_spec (s := y) (by first | exact at0 | exact at1 | exact at2 | exact at3 | exact at4 | exact at5 | exact at6 | exact at7 | exact at8 | exact at9 | exact at10 | exact at11 | exact at12 | exact at13 | exact at14 | exact at15 | exact at16 | exact atX rfl) (by first | exact at0 | exact at1 | exact at2 | exact at3 | exact at4 | exact at5 | exact at6 | exact at7 | exact at8 | exact at9 | exact at10 | exact at11 | exact at12 | exact at13 | exact at14 | exact at15 | exact at16 | exact atX rfl) ?_)) <;> try simp only [*, wpx_of k4_0.eq_1, wpx_of k4_1.eq_1, wpx_of k4_2.eq_1, wpx_of k4_3.eq_1, wpx_of k4_4.eq_1, wpx_of k4_5.eq_1, wpx_of k4_6.eq_1, wpx_of k4_7.eq_1, wpx_of k4_9.eq_1, wpx_of k4_10.eq_1, wpx_of k4_11.eq_1, wpx_of k4_12.eq_1, wpx_of k4_13.eq_1, wpx_of k4_14.eq_1, wpx_of k4_15.eq_1, wpx_of k4_16.eq_1, wpx_of k4_17.eq_1, wpx_of b4_8.eq_1, nlt_iff, n0_le, hw, hwn, hg1, hg2, hyS, hq', hu, u2, hgy, hd2, List.cons_append, List.nil_append, go_sem])
    (refine ALoop.keep [22, 21, 17, 19] ?_; simp only [List.map_cons, List.map_nil, go_sem]; refine next _ (by omega) ?_)
    simp [diffs, List.range_succ, hq]
end Go.Proofs.Ytipigjckoejfpaa.Ax
