/- Part of a proof about a given program: see the last module of the claim. -/
import Derived.Test.YtcpgkgldibobeaaGreatDoorRows
import Derived.ProofKit
import Derived.LaidMore
import Derived.OpenShut
import Derived.Stop.Joined
import Derived.ChangeSlices
import Derived.Carry
import Derived.ChangeSame
import Derived.Test.YtcpgkgldibobeaaGreatDoorB
section
open Go Go.Ev Go.RowKit Go.ChangeShapes Go.WideShapes
namespace Go.Proofs.YtcpgkgldibobeaaGreatDoor
open Go.Proofs
set_option maxRecDepth 100000
set_option linter.unusedVariables false
set_option linter.unusedSimpArgs false

/-! ### From a row's reading of its arguments to abstract values, and back -/
section
variable {H : Type} {enc : TypeId × Value → H} {P : Program}

/-- The last step: nothing that was there has changed, the arguments read as before. -/
theorem post_true {f : Func} {s : ChangeSpec} {apart fresh handsOn again : Bool} {W W' : World} {args : Array Value} {v : Value} {ds gs : List (DataW H)} {before pa pv : List MemPlace}
    (hW : DataW.Whole enc P f.params.toList s.vars apart W args.toList ds gs before)
    (hres : ∀ (b : Nat) (sp : Nat → Bool) (hd : Bool), DataW.TrodAll enc P W' b sp hd f.resultTypes.toList (v.resultList f.resultTypes.size) (s.fn H (ds ++ gs)).results [])
    (hargs : ∀ sp : Nat → Bool, (∀ p ∈ before, sp p.block = true) → DataW.TrodAll enc P W' 0 sp true f.params.toList args.toList (s.fn H (ds ++ gs)).args pa)
    (hvars : ∀ sp : Nat → Bool, (∀ p ∈ before, sp p.block = true) → DataW.TrodVars enc P W' sp s.vars (s.fn H (ds ++ gs)).vars pv)
    (hps : before = pa ++ pv) (hb : Below W.heap.size W W')
    (hok : ∀ (j : Nat) (t : TypeId) (r : Value), f.resultTypes[j]? = some t → (v.resultList f.resultTypes.size)[j]? = some r → Value.okWide P W' .any 0 t r) :
    s.post enc P f apart fresh handsOn again W args v W' := by
  have hlt : ∀ p ∈ before, p.block < W.heap.size := fun p hp => hW.lt p hp
  have hold : ∀ p ∈ before, (fun b => decide (b < W.heap.size)) p.block = true := fun p hp => by simpa using hlt p hp
  refine ⟨ds, gs, before, [], pa, pv, hW, hres _ _ _, hargs _ hold, hvars _ hold, World.keptBut_mono (fun p hp => ⟨hp, ?_⟩) (hb.frame (· ∈ before)), fun _ => ?_⟩
  · rw [hps, List.mem_append] at hp
    exact Or.inr hp
  · obtain ⟨_, _, _, _, _, hz, hn⟩ := hW
    refine ⟨hok, _, _, ([] ++ pa) ++ pv, ⟨[] ++ pa, pv, trodAll_append (hargs _ (fun _ _ => rfl)) (hres _ _ _), hvars _ (fun _ _ => rfl), rfl, ?_, ?_⟩, ?_⟩
    · intro b off hp
      have hin : MemPlace.cell b off ∈ before := by rw [hps]; simpa using hp
      rw [hb.frozen (hlt _ hin)]
      exact hz b off hin
    · intro ha
      have := hn ha
      rw [hps] at this
      simpa using this
    · intro p hp _
      rw [hps]
      simpa using hp

/-- A slice of ints that can be read: its abstract value. -/
theorem rd_ints {t e : TypeId} {W : World} {base : Nat} {v : Value} {d : DataW H} {ps : List MemPlace} (ht : P.underlying t = some (.slice e)) (he : P.underlying e = some (.int .i64)) (hc : P.cellsOf e = 1)
    (hval : Value.okWide P W .any base t v) (h : DataW.Trod enc P W 0 (fun _ => true) true t v d ps) (M : Nat → Prop) (hM : ∀ b, ¬ M b) :
    ∃ l : List Int, Rd ⟨W.heap, M, []⟩ (.sq l) v ∧ ∀ x ∈ l, -9223372036854775808 ≤ x ∧ x ≤ 9223372036854775807 := by
  obtain ⟨a0, len, cap, rfl⟩ := okWide_slice ht hval
  obtain ⟨fuel, hf⟩ := h
  rcases open_ints ht he hc hf with ⟨hcs, _⟩ | ⟨a, len', cap', zs, hcs, _, hl, hm, hz, _, hcell, hwz⟩
  · simp [Value.cells] at hcs
    obtain ⟨rfl, rfl, rfl⟩ := hcs
    exact ⟨[], .sq (.inl rfl) (by simp), fun x hx => by cases hx⟩
  · simp [Value.cells] at hcs
    obtain ⟨rfl, rfl, rfl⟩ := hcs
    simp only [if_true] at hz
    have hlen : (zs.take len).length = len := by rw [List.length_take]; omega
    refine ⟨zs.take len, ?_, fun x hx => ?_⟩
    · have key : IntsAt ⟨W.heap, M, []⟩ (zs.take len) (some a) := by
        by_cases h0 : len = 0
        · subst h0; exact .inl (by simp)
        · have hc0 := hcell 0 (by omega)
          have hspot : a.spot = none := by
            have : W.cell? a = some (.int .i64 (zs.getD 0 0)) := by simpa [Addr.add] using hc0
            unfold World.cell? at this
            split at this
            · split at this
              · cases this
              · rename_i hs; simpa using hs
            · cases this
          obtain ⟨b, o, sp⟩ := a
          simp only at hspot
          subst hspot
          refine .inr ⟨b, o, rfl, hM b, fun i hi => ?_⟩
          have hi' : i < zs.length := by rw [hlen] at hi; omega
          have h2 := hcell i hi'
          rw [add_eq, cell?_eq] at h2
          have e : (zs.take len).getD i 0 = zs.getD i 0 := by
            rw [hlen] at hi
            simp [List.getD, hi]
          rw [e]; exact h2
      have := Rd.sq (E := ⟨W.heap, M, []⟩) (cap := cap) key (by omega)
      rw [hlen] at this
      exact this
    · have hx' := List.mem_of_mem_take hx
      have h3 := hwz x hx'
      simp only [Lit.wf, Bool.and_eq_true, decide_eq_true_eq] at h3
      exact h3
end
end Go.Proofs.YtcpgkgldibobeaaGreatDoor
end
