/- FieldIntegers: for every input the law returns true, and its arguments read afterwards as before (the card: the listed tables are tied to the text of the program). Conditions: none beside those of the row. -/
import Derived.Test.YtcpgkgldibobeaaGreatDoorN
import Derived.Test.YtcpgkgldibobeaaGreatDoorM
import Derived.Test.YtcpgkgldibobeaaGreatDoorTie
import Derived.Test.YtcpgkgldibobeaaGreatDoorCards
section
open Go Go.Ev Go.RowKit Go.ChangeShapes Go.WideShapes
namespace Go.Proofs.YtcpgkgldibobeaaGreatDoor
open Go.Proofs
set_option maxRecDepth 100000
set_option linter.unusedVariables false
set_option linter.unusedSimpArgs false
theorem rd_int {H : Type} {enc : TypeId × Value → H} {P : Program} {t : TypeId} {W : World} {base : Nat} {v : Value} {d : DataW H} {ps : List MemPlace} (ht : P.underlying t = some (.int .i64))
    (hval : Value.okWide P W .any base t v) (h : DataW.Trod enc P W 0 (fun _ => true) true t v d ps) (E : Env) : ∃ n : Int, Rd E (.lit (.int .i64 n)) v ∧ pFloored n := by
  obtain ⟨n, rfl, _, _, hw⟩ := open_int ht hval h
  have h : (decide ((IntKind.i64).min ≤ n) && decide (n ≤ (IntKind.i64).max)) = true := hw
  rw [Bool.and_eq_true, decide_eq_true_eq, decide_eq_true_eq] at h
  exact ⟨n, .lit _, h⟩
theorem own : ownKnob Tryz.prog.godebug = none := by kernel_rfl
theorem laidOut : laidOutB Tryz.prog = true := by kernel_rfl
theorem door_met (os : Os) (args : Array Value) : laidMetH Tryz.prog Rows.fieldIntegersRow.laid ((World.doorLaid Tryz.prog 400 os).forCall (fun _ _ => 0) ⟨#[], args, []⟩).memory :=
  laidMetH_of_parts3 (fuel := 8) (laidMet_of_run' 8 (by kernel_rfl) (by kernel_rfl)) (by kernel_rfl) (by kernel_rfl)
theorem ints_lifted (os : Os) (started : os.Started) (H : Type) (enc : TypeId × Value → H) :
    ReturnsInHanded {} Tryz.checked os 11 .any (fun w args => (Rows.fieldIntegersSpec.pre enc Tryz.prog Tryz.f11 [] false w args ∧ laidMetH Tryz.prog Rows.fieldIntegersRow.laid w) ∧ sizedMet enc Tryz.prog Tryz.f11 (OpenSpec.ofChange Rows.fieldIntegersSpec) false w args)
      (Rows.fieldIntegersSpec.post enc Tryz.prog Tryz.f11 false true false false) := by
  refine returnsInHanded_of_change_and (C := Tryz.checked) (X := fun w _ => laidMetH Tryz.prog Rows.fieldIntegersRow.laid w) (fun _ _ _ hh h => h.of_heap hh) own started (by kernel_rfl) Tryz.func11
    (ChangeSpec.witness_shaped (enc := enc) (C := Tryz.checked) (os := os) (X := fun w _ => laidMetH Tryz.prog Rows.fieldIntegersRow.laid w) false (World.doorLaid Tryz.prog 400 os) #[.slice none 0 0, .slice none 0 0, .int .i64 0] 8 rfl (World.shaped_of_RefB (by kernel_rfl) (by kernel_rfl)) (by kernel_rfl) (by kernel_rfl) (by kernel_rfl) (door_met os _)) ?_
  intro W base args ds gs before hval0 hW _ _ _ _
  have hval : ∀ (j : Nat) t v, Tryz.f11.params[j]? = some t → args[j]? = some v → Value.okWide Tryz.prog W .any base t v := hval0
  have hW' := hW
  obtain ⟨p, q, hA0, hV, rfl, hfz, hnd⟩ := hW
  have hA : DataW.TrodAll enc Tryz.prog W 0 (fun _ => true) true Tryz.f11.params.toList args.toList ds p := hA0
  rw [Tryz.params11] at hA hval
  obtain ⟨v0, v1, v2, d0, d1, d2, p0, p1, p2, rfl, rfl, rfl, h0, h1, h2⟩ := trodAll_three hA
  obtain ⟨rfl, rfl⟩ := trodVars_none hV
  clear hA0 hval0
  simp only [List.append_nil] at hW'
  have hlt : ∀ x ∈ p0 ++ p1 ++ p2, x.block < W.heap.size := fun x hx => by simpa using hW'.lt x hx
  obtain ⟨l0, r0, b0⟩ := rd_ints Tryz.underlying22 Tryz.underlying3 (by kernel_rfl) (hval 0 _ v0 rfl rfl) h0 (fun _ => False) (fun _ h => h)
  obtain ⟨l1, r1, b1⟩ := rd_ints Tryz.underlying22 Tryz.underlying3 (by kernel_rfl) (hval 1 _ v1 rfl rfl) h1 (fun _ => False) (fun _ h => h)
  obtain ⟨n2, r2, b2⟩ := rd_int Tryz.underlying3 (hval 2 _ v2 rfl rfl) h2 ⟨W.heap, fun _ => False, []⟩
  refine (integers_fc l0 l1 n2 b0 b1 b2 (fun _ => False) W #[v0, v1, v2] (fun _ h => h.elim) rfl ?_).mono ?_
  · intro i hi
    have : i = 0 ∨ i = 1 ∨ i = 2 := by simp at hi; omega
    rcases this with rfl | rfl | rfl
    · exact r0
    · exact r1
    · exact r2
  · rintro e W' ⟨v, rfl, hb, hr⟩
    have hv : v = .bool true := hr.lit_inv
    subst hv
    refine ⟨_, rfl, post_true (pa := p0 ++ p1 ++ p2) (pv := []) hW' ?_ ?_ (fun _ _ => rfl) (by simp) hb (ok_one (by kernel_rfl) rfl (okWide_bool_mk Tryz.underlying4 _))⟩
    · intro b sp hd
      exact trodAll_mk1 (shut_bool Tryz.underlying4 true)
    · intro sp hsp
      have e : Rows.fieldIntegersSpec.fn H ([d0, d1, d2] ++ []) = { results := [.lit (.bool true)], args := [d0, d1, d2] } := rfl
      rw [e, List.append_assoc]
      have go : ∀ {v : Value} {d : DataW H} {q : List MemPlace}, DataW.Trod enc Tryz.prog W 0 (fun _ => true) true 22 v d q → (∀ x ∈ q, x ∈ p0 ++ p1 ++ p2) → DataW.Trod enc Tryz.prog W' 0 sp true 22 v d q := fun h hq =>
        WideElems.Trod_stays laidOut (by kernel_rfl) (of_decide_eq_true (by kernel_rfl)) h (fun x hx => hb.same (hlt x (hq x hx))) (fun x hx => hsp x (by simpa using hq x hx))
      have go2 : ∀ {v : Value} {d : DataW H} {q : List MemPlace}, DataW.Trod enc Tryz.prog W 0 (fun _ => true) true 3 v d q → (∀ x ∈ q, x ∈ p0 ++ p1 ++ p2) → DataW.Trod enc Tryz.prog W' 0 sp true 3 v d q := fun h hq =>
        WideElems.Trod_stays laidOut (by kernel_rfl) (of_decide_eq_true (by kernel_rfl)) h (fun x hx => hb.same (hlt x (hq x hx))) (fun x hx => hsp x (by simpa using hq x hx))
      rw [Tryz.params11]
      exact trodAll_mk3 (go h0 fun x hx => by simp [hx]) (go h1 fun x hx => by simp [hx]) (go2 h2 fun x hx => by simp [hx])
theorem ints_holds : Rows.FieldIntegersSaid :=
  OpenClaim.holds_of_wide 11 Tryz.f11 rfl rfl rfl rfl rfl rfl rfl ⟨rfl, rfl, rfl, rfl, rfl⟩ rfl rfl rfl rfl rfl (by kernel_rfl) Tryz.func11 (by kernel_rfl)
    (of_decide_eq_true (by kernel_rfl)) (by unfold Func.isWrapper; first | (rw [if_pos (by decide +kernel)]; kernel_rfl) | (rw [if_neg (by decide +kernel)]; exact ⟨rfl, rfl⟩))
    (fun os started H enc _ => ints_lifted os started H enc)
/-- THE CARD: 'FieldIntegers' holds for every input, the listed tables tied to the program's text. -/
theorem ints_card : Rows.FieldIntegersCardSaid :=
  Claim7.holds_tied_plain_at .later [] [.data, .data, .data] true Rows.fieldIntegersCard.stood.harness false
    ints_holds (fun _ h => by cases h) (by kernel_rfl) (fun _ h => by cases h) fieldIntegers_row_tie rfl ⟨rfl, rfl⟩ (by kernel_rfl) rfl
    (fun f fn hf hfn => by
      obtain rfl : f = 11 := Option.some.inj ((show Tryz.prog.funcNamed Rows.fieldIntegersRow.func = some 11 by kernel_rfl).symm.trans hf) |>.symm
      obtain rfl : fn = Tryz.f11 := (Option.some.inj (Tryz.func11.symm.trans hfn)).symm
      exact ⟨by kernel_rfl, fun j t ht => by
        rw [Tryz.params11] at ht
        have hm : t ∈ [22, 22, 3] := by simpa using Array.mem_of_getElem? ht
        have hall : ([22, 22, 3].all fun u => !Tryz.prog.wantsStandIn u) = true := by kernel_rfl
        exact (show Tryz.prog.wantsStandIn t = false by simpa using List.all_eq_true.1 hall t hm)⟩)
    (by kernel_rfl)
end Go.Proofs.YtcpgkgldibobeaaGreatDoor
end
