/- Part of a proof about a given program: see the last module of the claim. -/
import Derived.Test.YtloaeinogiplbaaGreatDoorRows
import Derived.ProofKit
import Derived.LaidMore
import Derived.OpenShut
import Derived.Stop.Joined
import Derived.ChangeSlices
import Derived.Carry
import Derived.ChangeSame
import Derived.Test.YtloaeinogiplbaaGreatDoorB
section
open Go Go.Ev Go.RowKit Go.ChangeShapes Go.WideShapes
namespace Go.Proofs.YtloaeinogiplbaaGreatDoor
open Go.Proofs
set_option maxRecDepth 100000
set_option linter.unusedVariables false
set_option linter.unusedSimpArgs false

/-! ### From a row's reading of its arguments to abstract values, and back -/
section
variable {H : Type} {enc : TypeId × Value → H} {P : Program}

/-- The last step: nothing that was there has changed, the arguments read as before. -/
theorem post_true {f : Func} {s : ChangeSpec} {apart fresh handsOn again : Bool} {W W' : World} {args : Array Value} {v : Value} {ds gs : List (DataW H)} {before pa pv : List MemPlace}
    (hW : DataW.Whole enc P f.params.toList s.vars apart W args.toList ds gs before)
    (hres : ∀ (b : Nat) (sp : Nat → Bool) (hd : Bool), DataW.TrodAll enc P W' b sp hd f.resultTypes.toList (v.resultList f.resultTypes.size) (s.fn H (ds ++ gs)).results [])
    (hargs : ∀ sp : Nat → Bool, (∀ p ∈ before, sp p.block = true) → DataW.TrodAll enc P W' 0 sp true f.params.toList args.toList (s.fn H (ds ++ gs)).args pa)
    (hvars : ∀ sp : Nat → Bool, (∀ p ∈ before, sp p.block = true) → DataW.TrodVars enc P W' sp s.vars (s.fn H (ds ++ gs)).vars pv)
    (hps : before = pa ++ pv) (hb : Below W.heap.size W W')
    (hok : ∀ (j : Nat) (t : TypeId) (r : Value), f.resultTypes[j]? = some t → (v.resultList f.resultTypes.size)[j]? = some r → Value.okWide P W' .any 0 t r) :
    s.post enc P f apart fresh handsOn again W args v W' := by
  have hlt : ∀ p ∈ before, p.block < W.heap.size := fun p hp => hW.lt p hp
  have hold : ∀ p ∈ before, (fun b => decide (b < W.heap.size)) p.block = true := fun p hp => by simpa using hlt p hp
  refine ⟨ds, gs, before, [], pa, pv, hW, hres _ _ _, hargs _ hold, hvars _ hold, World.keptBut_mono (fun p hp => ⟨hp, ?_⟩) (hb.frame (· ∈ before)), fun _ => ?_⟩
  · rw [hps, List.mem_append] at hp
    exact Or.inr hp
  · obtain ⟨_, _, _, _, _, hz, hn⟩ := hW
    refine ⟨hok, _, _, ([] ++ pa) ++ pv, ⟨[] ++ pa, pv, trodAll_append (hargs _ (fun _ _ => rfl)) (hres _ _ _), hvars _ (fun _ _ => rfl), rfl, ?_, ?_⟩, ?_⟩
    · intro b off hp
      have hin : MemPlace.cell b off ∈ before := by rw [hps]; simpa using hp
      rw [hb.frozen (hlt _ hin)]
      exact hz b off hin
    · intro ha
      have := hn ha
      rw [hps] at this
      simpa using this
    · intro p hp _
      rw [hps]
      simpa using hp

/-- A slice of ints that can be read: its abstract value. -/
theorem rd_ints {t e : TypeId} {W : World} {base : Nat} {v : Value} {d : DataW H} {ps : List MemPlace} (ht : P.underlying t = some (.slice e)) (he : P.underlying e = some (.int .i64)) (hc : P.cellsOf e = 1)
    (hval : Value.okWide P W .any base t v) (h : DataW.Trod enc P W 0 (fun _ => true) true t v d ps) (M : Nat → Prop) (hM : ∀ b, ¬ M b) :
    ∃ l : List Int, Rd ⟨W.heap, M, []⟩ (.sq l) v ∧ ∀ x ∈ l, -9223372036854775808 ≤ x ∧ x ≤ 9223372036854775807 := by
  obtain ⟨a0, len, cap, rfl⟩ := okWide_slice ht hval
  obtain ⟨fuel, hf⟩ := h
  rcases open_ints ht he hc hf with ⟨hcs, _⟩ | ⟨a, len', cap', zs, hcs, _, hl, hm, hz, _, hcell, hwz⟩
  · simp [Value.cells] at hcs
    obtain ⟨rfl, rfl, rfl⟩ := hcs
    exact ⟨[], .sq (.inl rfl) (by simp), fun x hx => by cases hx⟩
  · simp [Value.cells] at hcs
    obtain ⟨rfl, rfl, rfl⟩ := hcs
    simp only [if_true] at hz
    have hlen : (zs.take len).length = len := by rw [List.length_take]; omega
    refine ⟨zs.take len, ?_, fun x hx => ?_⟩
    · have key : IntsAt ⟨W.heap, M, []⟩ (zs.take len) (some a) := by
        by_cases h0 : len = 0
        · subst h0; exact .inl (by simp)
        · have hc0 := hcell 0 (by omega)
          have hspot : a.spot = none := by
            have : W.cell? a = some (.int .i64 (zs.getD 0 0)) := by simpa [Addr.add] using hc0
            unfold World.cell? at this
            split at this
            · split at this
              · cases this
              · rename_i hs; simpa using hs
            · cases this
          obtain ⟨b, o, sp⟩ := a
          simp only at hspot
          subst hspot
          refine .inr ⟨b, o, rfl, hM b, fun i hi => ?_⟩
          have hi' : i < zs.length := by rw [hlen] at hi; omega
          have h2 := hcell i hi'
          rw [add_eq, cell?_eq] at h2
          have e : (zs.take len).getD i 0 = zs.getD i 0 := by
            rw [hlen] at hi
            simp [List.getD, hi]
          rw [e]; exact h2
      have := Rd.sq (E := ⟨W.heap, M, []⟩) (cap := cap) key (by omega)
      rw [hlen] at this
      exact this
    · have hx' := List.mem_of_mem_take hx
      have h3 := hwz x hx'
      simp only [Lit.wf, Bool.and_eq_true, decide_eq_true_eq] at h3
      exact h3
end
end Go.Proofs.YtloaeinogiplbaaGreatDoor
end

section
open Go Go.Ev Go.RowKit Go.ChangeShapes Go.WideShapes
namespace Go.Ev
set_option linter.unusedVariables false
set_option linter.unusedSimpArgs false

/-! ### Data that can be read, by kinds -/

/-- Ints are ints. -/
def okK : (k : EK) → k.ty → Prop
  | .int .i64, n => -9223372036854775808 ≤ (n : Int) ∧ (n : Int) ≤ 9223372036854775807
  | .pr a b, x => okK a x.1 ∧ okK b x.2
  | .sl e, l => ∀ x ∈ l, okK e x
  | _, _ => True
abbrev envR (W : World) : Env := ⟨W.heap, fun _ => False, []⟩
/-- A type's data are of a kind. -/
def KRd (P : Program) (t : TypeId) (k : EK) : Prop := P.cellsOf t = k.sz ∧ ∀ (H : Type) (enc : TypeId × Value → H) (W : World) (sp : Nat → Bool) (hd : Bool) (fuel : Nat) (cs : List Value) (x : DataW H × List MemPlace),
  DataW.trod enc P W 0 sp hd fuel t cs = some x → cs.length = k.sz ∧ ∃ y : k.ty, okK k y ∧ ∀ i, i < k.sz → Rd (envR W) ((k.cells y).getD i .junk) (cs.getD i undef)
def FRd (P : Program) (fs : List Field) (o : Nat) (k : EK) : Prop := ∀ (H : Type) (enc : TypeId × Value → H) (W : World) (sp : Nat → Bool) (hd : Bool) (cs : List Value),
  (∀ f ∈ fs, ∃ n x, DataW.trod enc P W 0 sp hd n f.type ((cs.drop f.offset).take (P.cellsOf f.type)) = some x) → ∃ y : k.ty, okK k y ∧ ∀ i, i < k.sz → Rd (envR W) ((k.cells y).getD i .junk) (cs.getD (o + i) undef)
theorem KRd.int {P : Program} {t : TypeId} (ht : P.underlying t = some (.int .i64)) (hc : P.cellsOf t = 1) : KRd P t (.int .i64) := by
  refine ⟨hc, fun H enc W sp hd fuel cs x h => ?_⟩
  obtain ⟨n, rfl, _, hw⟩ := DataW.trod_int ht h
  have hb := bounds_i64 hw
  refine ⟨rfl, n, hb, fun i hi => ?_⟩
  obtain rfl : i = 0 := by have : i < 1 := hi; omega
  exact .lit _
theorem FRd.one {P : Program} {f : Field} {o : Nat} {k : EK} (ho : f.offset = o) (h : KRd P f.type k) : FRd P [f] o k := by
  intro H enc W sp hd cs hf
  obtain ⟨n, x, hx⟩ := hf f (by simp)
  obtain ⟨hl, y, hy, hr⟩ := h.2 H enc W sp hd n _ x hx
  refine ⟨y, hy, fun i hi => ?_⟩
  have := hr i hi
  rw [h.1, ho] at this
  have e : ((cs.drop o).take k.sz).getD i undef = cs.getD (o + i) undef := by
    simp only [List.getD_eq_getElem?_getD, List.getElem?_take, hi, if_true, List.getElem?_drop]
  rwa [e] at this
theorem FRd.cons {P : Program} {f : Field} {fs : List Field} {o : Nat} {a b : EK} (ho : f.offset = o) (h : KRd P f.type a) (hf : FRd P fs (o + a.sz) b) : FRd P (f :: fs) o (.pr a b) := by
  intro H enc W sp hd cs hfs
  obtain ⟨y, hy, hr⟩ := FRd.one ho h H enc W sp hd cs (fun g hg => hfs g (by simp at hg; simp [hg]))
  obtain ⟨z, hz, hq⟩ := hf H enc W sp hd cs fun g hg => hfs g (by simp [hg])
  refine ⟨(y, z), ⟨hy, hz⟩, fun i hi => ?_⟩
  have hi' : i < a.sz + b.sz := hi
  show Rd (envR W) ((a.cells y ++ b.cells z).getD i .junk) _
  by_cases h1 : i < a.sz
  · have := hr i h1
    rwa [show (a.cells y ++ b.cells z).getD i .junk = (a.cells y).getD i .junk by simp only [List.getD_eq_getElem?_getD]; rw [List.getElem?_append_left (by rw [cells_length]; exact h1)]]
  · have := hq (i - a.sz) (by omega)
    rw [show (a.cells y ++ b.cells z).getD i .junk = (b.cells z).getD (i - a.sz) .junk by simp only [List.getD_eq_getElem?_getD]; rw [List.getElem?_append_right (by rw [cells_length]; omega), cells_length]]
    rwa [show o + a.sz + (i - a.sz) = o + i by omega] at this
theorem KRd.struct {P : Program} {t : TypeId} {fs : Array Field} {k : EK} (ht : P.underlying t = some (.struct fs)) (hc : P.cellsOf t = k.sz) (h : FRd P fs.toList 0 k) : KRd P t k := by
  refine ⟨hc, fun H enc W sp hd fuel cs x hx => ?_⟩
  obtain ⟨xs, n, _, _, hl, hxs, hf⟩ := DataW.trod_struct ht hx
  refine ⟨by rw [hl, hc], ?_⟩
  obtain ⟨y, hy, hr⟩ := h H enc W sp hd cs fun f hff => by
    obtain ⟨i, hi, rfl⟩ := List.getElem_of_mem hff
    have hi' : i < fs.size := by simpa using hi
    have := hf i fs[i] (by simp [hi'])
    rw [List.getElem?_eq_getElem (by omega)] at this
    exact ⟨n, _, by simpa using this⟩
  exact ⟨y, hy, fun i hi => by simpa using hr i hi⟩
theorem pickL {α : Type} {Q : Nat → α → Prop} : ∀ n, (∀ i, i < n → ∃ x, Q i x) → ∃ l : List α, l.length = n ∧ ∀ i (h : i < l.length), Q i l[i]
  | 0, _ => ⟨[], rfl, fun i h => by cases h⟩
  | n + 1, h => by
    obtain ⟨l, hl, hq⟩ := pickL n fun i hi => h i (by omega)
    obtain ⟨x, hx⟩ := h n (by omega)
    refine ⟨l ++ [x], by simp [hl], fun i hi => ?_⟩
    by_cases h1 : i < l.length
    · rw [List.getElem_append_left h1]; exact hq i h1
    · have : i = l.length := by simp at hi; omega
      subst this
      rw [List.getElem_append_right (Nat.le_refl _)]
      simp only [Nat.sub_self, List.getElem_cons_zero]
      rw [hl]; exact hx
theorem add_twice (a : Addr) (i j : Nat) : (a.add i).add j = a.add (i + j) := by
  unfold Addr.add
  by_cases hi : i = 0
  · subst hi; simp
  · rw [if_neg hi]
    by_cases hj : j = 0
    · subst hj; simp [hi]
    · simp [hi, hj]; omega
theorem plain_of_cell {W : World} {a : Addr} {n : Nat} {v : Value} (h : W.cell? (a.add n) = some v) : W.cell? ⟨a.block, a.off + n, none⟩ = some v := by
  by_cases hn : n = 0
  · subst hn
    have e : a.add 0 = a := by unfold Addr.add; simp
    rw [e] at h
    have hs : a.spot = none := by
      unfold World.cell? at h
      split at h
      · split at h
        · cases h
        · rename_i hs; simpa using hs
      · cases h
    obtain ⟨b, o, s⟩ := a
    simp only at hs
    subst hs
    exact h
  · have e : a.add n = ⟨a.block, a.off + n, none⟩ := by unfold Addr.add; rw [if_neg hn]
    rwa [e] at h
theorem KRd.sl {P : Program} {t e : TypeId} {k : EK} (ht : P.underlying t = some (.slice e)) (hc : P.cellsOf t = 1) (hp : 0 < k.sz) (h : KRd P e k) : KRd P t (.sl k) := by
  refine ⟨hc, fun H enc W sp hd fuel cs x hx => ?_⟩
  have done : ∀ (l : List k.ty) (v : Value), cs = [v] → (∀ y ∈ l, okK k y) → Rd (envR W) (.sl (cellsL k l) l.length) v → cs.length = (EK.sl k).sz ∧ ∃ y : (EK.sl k).ty, okK (.sl k) y ∧ ∀ i, i < (EK.sl k).sz → Rd (envR W) (((EK.sl k).cells y).getD i .junk) (cs.getD i undef) := by
    intro l v hv hl hr
    subst hv
    refine ⟨rfl, l, hl, fun i hi => ?_⟩
    obtain rfl : i = 0 := by have : i < 1 := hi; omega
    exact lst_slA k l _ _ (.lst hr)
  rcases DataW.trod_slice ht hx with ⟨rfl, _⟩ | ⟨a, len, cap, elems, rest, n, _, rfl, _, _, hl, _, hlen, hel, _, _⟩
  · exact done [] _ rfl (by simp) .sl0
  · obtain ⟨l, hll, hq⟩ := pickL (Q := fun i (y : k.ty) => okK k y ∧ ∀ j, j < k.sz → ∃ v, W.cell? ⟨a.block, a.off + (i * k.sz + j), none⟩ = some v ∧ Rd (envR W) ((k.cells y).getD j .junk) v) len fun i hi => by
      have h1 := hel i hi
      rw [List.getElem?_eq_getElem (by omega), Option.bind_eq_some_iff] at h1
      obtain ⟨ci, hci, htr⟩ := h1
      obtain ⟨h2, y, hy, hr⟩ := h.2 H enc W sp hd n ci _ htr
      refine ⟨y, hy, fun j hj => ?_⟩
      obtain ⟨_, h3, h4⟩ := World.cells?_some hci
      rw [h.1] at h3 h4
      have h5 := h4 j hj
      rw [add_twice, List.getElem?_eq_getElem (by omega)] at h5
      refine ⟨ci[j], plain_of_cell h5, ?_⟩
      have := hr j hj
      rwa [show ci.getD j undef = ci[j] by simp [List.getD, show j < ci.length by omega]] at this
    refine done l _ rfl (fun y hy => ?_) ?_
    · obtain ⟨i, hi, rfl⟩ := List.getElem_of_mem hy
      exact (hq i hi).1
    · subst hll
      by_cases h0 : l = []
      · subst h0; exact .sl0
      have hpos : 0 < l.length := List.length_pos_iff.2 h0
      have key : ∀ i, i < (cellsL k l).length → ∃ v, cellOf W.heap a.block (a.off + i) = some v ∧ Rd (envR W) ((cellsL k l).getD i .junk) v := fun i hi => by
        rw [cellsL_length] at hi
        have hq1 : i / k.sz < l.length := Nat.div_lt_of_lt_mul (by rw [Nat.mul_comm]; exact hi)
        have hr1 := Nat.mod_lt i hp
        obtain ⟨v, hv, hr⟩ := (hq (i / k.sz) hq1).2 (i % k.sz) hr1
        have e : i / k.sz * k.sz + i % k.sz = i := by rw [Nat.mul_comm]; exact Nat.div_add_mod i k.sz
        rw [e, cell?_eq] at hv
        refine ⟨v, hv, ?_⟩
        have := cellsL_getD k l (i / k.sz) (i % k.sz) hq1 hr1
        rw [e] at this
        rw [this, show l.getD (i / k.sz) k.dflt = l[i / k.sz] by simp [List.getD, hq1]]
        exact hr
      obtain ⟨b, o, s⟩ := a
      have hspot : s = none := by
        have h1 := hel 0 hpos
        rw [List.getElem?_eq_getElem (by omega), Option.bind_eq_some_iff] at h1
        obtain ⟨ci, hci, htr⟩ := h1
        obtain ⟨_, h3, h4⟩ := World.cells?_some hci
        rw [h.1] at h3 h4
        have h5 := h4 0 hp
        rw [List.getElem?_eq_getElem (by omega)] at h5
        have e : ((⟨b, o, s⟩ : Addr).add (0 * k.sz)).add 0 = ⟨b, o, s⟩ := by simp [Addr.add]
        rw [e] at h5
        unfold World.cell? at h5
        split at h5
        · split at h5
          · cases h5
          · rename_i hs; simpa using hs
        · cases h5
      subst hspot
      have hb : b < W.heap.size := by
        have hc1 : 0 < (cellsL k l).length := by rw [cellsL_length]; exact Nat.mul_pos hpos hp
        obtain ⟨v, hv, _⟩ := key 0 hc1
        exact lt_of_cellOf hv
      exact .sl (fun i => (cellOf W.heap b (o + i)).getD undef) hb (fun h => h) hl (fun i hi => by
        obtain ⟨v, hv, _⟩ := key i hi
        show cellOf W.heap b (o + i) = some ((cellOf W.heap b (o + i)).getD undef)
        rw [hv]; rfl) (fun i hi => by
        obtain ⟨v, hv, hr⟩ := key i hi
        show Rd (envR W) _ ((cellOf W.heap b (o + i)).getD undef)
        rw [hv]; exact hr)
/-- An argument that is an aggregate. -/
theorem KRd.arg {P : Program} {t : TypeId} {k : EK} (h : KRd P t k) (ha : k.agg = true) {H : Type} {enc : TypeId × Value → H} {W : World} {fs : Array Field} {v : Value} {d : DataW H} {ps : List MemPlace} (ht : P.underlying t = some (.struct fs)) (hval : Value.okWide P W .any 0 t v) (hr : DataW.Trod enc P W 0 (fun _ => true) true t v d ps) : ∃ y : k.ty, okK k y ∧ Rd (envR W) (k.val y) v := by
  obtain ⟨cs, rfl, _⟩ := okWide_struct ht hval
  obtain ⟨fuel, hf⟩ := hr
  obtain ⟨h1, y, hy, hq⟩ := h.2 H enc W _ _ fuel _ _ hf
  refine ⟨y, hy, ?_⟩
  unfold EK.val
  rw [ha]
  have hsz : cs.size = k.sz := by simpa [Value.cells] using h1
  refine .agg (by rw [cells_length, hsz]) fun i hi => ?_
  have := hq i (by rwa [cells_length] at hi)
  simpa [Value.cells] using this
end Go.Ev
end

section
open Go Go.Ev Go.RowKit Go.ChangeShapes Go.WideShapes
namespace Go.Proofs.YtloaeinogiplbaaGreatDoor
open Go.Proofs
set_option maxRecDepth 100000
set_option linter.unusedVariables false
theorem krI : KRd Tryz.prog 3 (.int .i64) := KRd.int Tryz.underlying3 (by kernel_rfl)
theorem krIs : KRd Tryz.prog 22 (.sl (.int .i64)) := KRd.sl Tryz.underlying22 (by kernel_rfl) (by decide) krI
theorem krIss : KRd Tryz.prog 25 (.sl (.sl (.int .i64))) := KRd.sl Tryz.underlying25 (by kernel_rfl) (by decide) krIs
theorem krNum : KRd Tryz.prog 27 numK := KRd.struct Tryz.underlying27 (by kernel_rfl) (FRd.cons rfl krIss (FRd.one rfl krIs))
theorem rd_int {H : Type} {enc : TypeId × Value → H} {P : Program} {t : TypeId} {W : World} {base : Nat} {v : Value} {d : DataW H} {ps : List MemPlace} (ht : P.underlying t = some (.int .i64))
    (hval : Value.okWide P W .any base t v) (h : DataW.Trod enc P W 0 (fun _ => true) true t v d ps) (E : Env) : ∃ n : Int, Rd E (.lit (.int .i64 n)) v ∧ -9223372036854775808 ≤ n ∧ n ≤ 9223372036854775807 := by
  obtain ⟨n, rfl, _, _, hw⟩ := open_int ht hval h
  have h : (decide ((IntKind.i64).min ≤ n) && decide (n ≤ (IntKind.i64).max)) = true := hw
  rw [Bool.and_eq_true, decide_eq_true_eq, decide_eq_true_eq] at h
  exact ⟨n, .lit _, h⟩
theorem own : ownKnob Tryz.prog.godebug = none := by kernel_rfl
theorem laidOut : laidOutB Tryz.prog = true := by kernel_rfl
end Go.Proofs.YtloaeinogiplbaaGreatDoor
end
