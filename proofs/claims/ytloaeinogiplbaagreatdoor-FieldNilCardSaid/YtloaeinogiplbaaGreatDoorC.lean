/- Part of a proof about a given program: see the last module of the claim. -/
import Derived.RangeFuncBox
import Derived.RangeFuncLeaves
import Derived.WalkKit
import Derived.OwnWalkIn
import Derived.TacticsInMore
import Derived.LoopNIn
import Derived.LoopIn
import Derived.Test.YtloaeinogiplbaaGreatDoorProg
import Derived.Test.YtloaeinogiplbaaGreatDoorB
section
open Go Go.Ev Go.RowKit
namespace Go.Proofs.YtloaeinogiplbaaGreatDoor
open Go.Proofs
attribute [local go_sem] Oper.semAt_some
set_option maxRecDepth 100000
set_option maxHeartbeats 2000000

theorem bwI : BwOK Tryz.prog 217 1 := by
  refine ⟨fun args w => run_callFunc Tryz.func217 rfl rfl args w, ?_⟩
  intro l Bs oB a n cap vals J Jx W hn hcell hplace hkeep hY h0
  obtain ⟨F, hF⟩ : ∃ F, F = fen none := ⟨_, rfl⟩
  rw [← hF] at hY ⊢
  have hfn : F.fn 217 := by rw [hF]; trivial
  have hro : F.round = none := by rw [hF]; rfl
  have hdep : (F.depth.isSome = true → 1 ≤ 0) := by rw [hF]; intro h; cases h
  have hdep' : F.depth = none := by rw [hF]; rfl
  clear hF
  refine callsIn_of_wp Tryz.func217 rfl hfn ?_ hro
  simp only [Tryz.ntmps217, List.size_toArray, List.length_cons, List.length_nil, Nat.reduceAdd, Nat.reduceSub, Array.replicate_succ, Array.replicate_zero, List.push_toArray, List.append_toArray, List.nil_append, List.cons_append]
  gi_wp2
  gi_loopw [3] (fun i wr => ∃ k : Nat, k ≤ n ∧ i = .int .i64 ((k : Int) - 1) ∧ J k wr)
    (fun i _ => (intOf i + 1).toNat)
  case atStart => exact ⟨n, Nat.le_refl _, by simp, h0⟩
  case round =>
    obtain ⟨k, hk, rfl, hJs⟩ := hrel
    have hcB : wr.cell? ⟨Bs, oB, none⟩ = some (.slice a n cap) := (World.cell?_of_block (w := W) (a := ⟨Bs, oB, none⟩) (hkeep k wr hJs).1).trans hcell
    by_cases hlt : 0 < k
    · obtain ⟨k, rfl⟩ : ∃ j, k = j + 1 := ⟨k - 1, by omega⟩
      have hn0 : n ≠ 0 := by omega
      obtain ⟨b, o, rfl, hb⟩ := hplace.resolve_left hn0
      have hcx : wr.cell? ⟨b, o + k, none⟩ = some (vals k) := (World.cell?_of_block (w := W) (a := ⟨b, o + k, none⟩) ((hkeep _ wr hJs).2 b o rfl hn0)).trans (hb k (by omega))
      obtain ⟨fn, tmps, assign, body, hy, hR⟩ := hY k wr (by omega) hJs
      rw [show encV 1 vals k = vals k from rfl] at hy
      gi_wp2
      refine hR.mono ?_
      rintro e W3 (⟨rfl, hJ3⟩ | ⟨rfl, hJx3⟩)
      · gi_wp2
        go_roundw
        case rel => exact ⟨k, by omega, by simp, hJ3⟩
        case measure => simp [intOf]
      · gi_wp2
        refine bodyPost_ret (results_none rfl _ _ _) rfl ?_
        exact ⟨⟨_, rfl⟩, .inr hJx3⟩
    · obtain rfl : k = 0 := by omega
      gi_wp2
      go_end0
      exact ⟨⟨_, rfl⟩, .inl hJs⟩

theorem bwW : BwOK Tryz.prog 214 2 := by
  refine ⟨fun args w => run_callFunc Tryz.func214 rfl rfl args w, ?_⟩
  intro l Bs oB a n cap vals J Jx W hn hcell hplace hkeep hY h0
  obtain ⟨F, hF⟩ : ∃ F, F = fen none := ⟨_, rfl⟩
  rw [← hF] at hY ⊢
  have hfn : F.fn 214 := by rw [hF]; trivial
  have hro : F.round = none := by rw [hF]; rfl
  have hdep : (F.depth.isSome = true → 1 ≤ 0) := by rw [hF]; intro h; cases h
  have hdep' : F.depth = none := by rw [hF]; rfl
  clear hF
  refine callsIn_of_wp Tryz.func214 rfl hfn ?_ hro
  simp only [Tryz.ntmps214, List.size_toArray, List.length_cons, List.length_nil, Nat.reduceAdd, Nat.reduceSub, Array.replicate_succ, Array.replicate_zero, List.push_toArray, List.append_toArray, List.nil_append, List.cons_append]
  gi_wp2
  gi_loopw [3] (fun i wr => ∃ k : Nat, k ≤ n ∧ i = .int .i64 ((k : Int) - 1) ∧ J k wr)
    (fun i _ => (intOf i + 1).toNat)
  case atStart => exact ⟨n, Nat.le_refl _, by simp, h0⟩
  case round =>
    obtain ⟨k, hk, rfl, hJs⟩ := hrel
    have hcB : wr.cell? ⟨Bs, oB, none⟩ = some (.slice a n cap) := (World.cell?_of_block (w := W) (a := ⟨Bs, oB, none⟩) (hkeep k wr hJs).1).trans hcell
    by_cases hlt : 0 < k
    · obtain ⟨k, rfl⟩ : ∃ j, k = j + 1 := ⟨k - 1, by omega⟩
      have hn0 : n ≠ 0 := by omega
      obtain ⟨b, o, rfl, hb⟩ := hplace.resolve_left hn0
      have hcx : wr.cell? ⟨b, o + k * 2, none⟩ = some (vals (2 * k)) := (World.cell?_of_block (w := W) (a := ⟨b, o + k * 2, none⟩) ((hkeep _ wr hJs).2 b o rfl hn0)).trans (by rw [Nat.mul_comm k 2]; exact hb (2 * k) (by omega))
      have hcy : wr.cell? ⟨b, o + k * 2 + 1, none⟩ = some (vals (2 * k + 1)) := (World.cell?_of_block (w := W) (a := ⟨b, o + k * 2 + 1, none⟩) ((hkeep _ wr hJs).2 b o rfl hn0)).trans (by rw [Nat.mul_comm k 2]; exact hb (2 * k + 1) (by omega))
      obtain ⟨fn, tmps, assign, body, hy, hR⟩ := hY k wr (by omega) hJs
      rw [show encV 2 vals k = .agg #[vals (2 * k), vals (2 * k + 1)] from rfl] at hy
      gi_wp2
      refine hR.mono ?_
      rintro e W3 (⟨rfl, hJ3⟩ | ⟨rfl, hJx3⟩)
      · gi_wp2
        go_roundw
        case rel => exact ⟨k, by omega, by simp, hJ3⟩
        case measure => simp [intOf]
      · gi_wp2
        refine bodyPost_ret (results_none rfl _ _ _) rfl ?_
        exact ⟨⟨_, rfl⟩, .inr hJx3⟩
    · obtain rfl : k = 0 := by omega
      gi_wp2
      go_end0
      exact ⟨⟨_, rfl⟩, .inl hJs⟩
theorem bwP : BwOK Tryz.prog 216 2 := by
  refine ⟨fun args w => run_callFunc Tryz.func216 rfl rfl args w, ?_⟩
  intro l Bs oB a n cap vals J Jx W hn hcell hplace hkeep hY h0
  obtain ⟨F, hF⟩ : ∃ F, F = fen none := ⟨_, rfl⟩
  rw [← hF] at hY ⊢
  have hfn : F.fn 216 := by rw [hF]; trivial
  have hro : F.round = none := by rw [hF]; rfl
  have hdep : (F.depth.isSome = true → 1 ≤ 0) := by rw [hF]; intro h; cases h
  have hdep' : F.depth = none := by rw [hF]; rfl
  clear hF
  refine callsIn_of_wp Tryz.func216 rfl hfn ?_ hro
  simp only [Tryz.ntmps216, List.size_toArray, List.length_cons, List.length_nil, Nat.reduceAdd, Nat.reduceSub, Array.replicate_succ, Array.replicate_zero, List.push_toArray, List.append_toArray, List.nil_append, List.cons_append]
  gi_wp2
  gi_loopw [3] (fun i wr => ∃ k : Nat, k ≤ n ∧ i = .int .i64 ((k : Int) - 1) ∧ J k wr)
    (fun i _ => (intOf i + 1).toNat)
  case atStart => exact ⟨n, Nat.le_refl _, by simp, h0⟩
  case round =>
    obtain ⟨k, hk, rfl, hJs⟩ := hrel
    have hcB : wr.cell? ⟨Bs, oB, none⟩ = some (.slice a n cap) := (World.cell?_of_block (w := W) (a := ⟨Bs, oB, none⟩) (hkeep k wr hJs).1).trans hcell
    by_cases hlt : 0 < k
    · obtain ⟨k, rfl⟩ : ∃ j, k = j + 1 := ⟨k - 1, by omega⟩
      have hn0 : n ≠ 0 := by omega
      obtain ⟨b, o, rfl, hb⟩ := hplace.resolve_left hn0
      have hcx : wr.cell? ⟨b, o + k * 2, none⟩ = some (vals (2 * k)) := (World.cell?_of_block (w := W) (a := ⟨b, o + k * 2, none⟩) ((hkeep _ wr hJs).2 b o rfl hn0)).trans (by rw [Nat.mul_comm k 2]; exact hb (2 * k) (by omega))
      have hcy : wr.cell? ⟨b, o + k * 2 + 1, none⟩ = some (vals (2 * k + 1)) := (World.cell?_of_block (w := W) (a := ⟨b, o + k * 2 + 1, none⟩) ((hkeep _ wr hJs).2 b o rfl hn0)).trans (by rw [Nat.mul_comm k 2]; exact hb (2 * k + 1) (by omega))
      obtain ⟨fn, tmps, assign, body, hy, hR⟩ := hY k wr (by omega) hJs
      rw [show encV 2 vals k = .agg #[vals (2 * k), vals (2 * k + 1)] from rfl] at hy
      gi_wp2
      refine hR.mono ?_
      rintro e W3 (⟨rfl, hJ3⟩ | ⟨rfl, hJx3⟩)
      · gi_wp2
        go_roundw
        case rel => exact ⟨k, by omega, by simp, hJ3⟩
        case measure => simp [intOf]
      · gi_wp2
        refine bodyPost_ret (results_none rfl _ _ _) rfl ?_
        exact ⟨⟨_, rfl⟩, .inr hJx3⟩
    · obtain rfl : k = 0 := by omega
      gi_wp2
      go_end0
      exact ⟨⟨_, rfl⟩, .inl hJs⟩
end Go.Proofs.YtloaeinogiplbaaGreatDoor
end

section
open Go Go.Ev Go.RowKit
namespace Go.Proofs.YtloaeinogiplbaaGreatDoor
open Go.Proofs
set_option maxRecDepth 100000
theorem mixed : Tryz.prog.follows .mixedOrders = true := by kernel_rfl
theorem names : NamesOK Tryz.prog := by unfold NamesOK; kernel_rfl
def bw : List (FuncId × Nat) := [(217, 1), (214, 2), (216, 2)]
theorem bw_ok : ∀ p ∈ bw, BwOK Tryz.prog p.1 p.2 := by
  intro p hp
  simp only [bw, List.mem_cons, List.not_mem_nil, or_false] at hp
  rcases hp with rfl | rfl | rfl
  · exact bwI
  · exact bwW
  · exact bwP
theorem cfg_ok {l : Ctr} {opt : List FuncId} (hl : ∀ p ∈ l, CtrOK Tryz.prog p.1 p.2) : (mkCfg Tryz.prog l bw opt).OK := mkCfg_ok names mixed hl bw_ok
end Go.Proofs.YtloaeinogiplbaaGreatDoor
end

section
open Go Go.Ev Go.RowKit
namespace Go.Proofs.YtloaeinogiplbaaGreatDoor
open Go.Proofs
set_option maxRecDepth 100000
set_option maxHeartbeats 1000000
set_option linter.unusedVariables false
set_option linter.unusedSimpArgs false


theorem floored_0 (n : Int) : funA (mkCfg Tryz.prog [] bw) 60 164 [.lit (.int .i64 n)] [true] [] = some (AV.tup [aI (Int.tdiv n 100000000 - 1), aI (Int.tmod n 100000000 + 100000000)], [true = true, inR IntKind.i64 (Int.tdiv n 100000000) = true, true = true, decide (Int.tmod n 100000000 < 0) = true, inR IntKind.i64 (Int.tdiv n 100000000 - 1) = true, inR IntKind.i64 (Int.tmod n 100000000 + 100000000) = true]) := by kernel_rfl
theorem floored_1 (n : Int) : funA (mkCfg Tryz.prog [] bw) 60 164 [.lit (.int .i64 n)] [false] [] = some (AV.tup [aI (Int.tdiv n 100000000), aI (Int.tmod n 100000000)], [true = true, inR IntKind.i64 (Int.tdiv n 100000000) = true, true = true, decide (Int.tmod n 100000000 < 0) = false]) := by kernel_rfl
theorem trimL_0 (l : List Int) : rndA (mkCfg Tryz.prog [] bw) 60 (lpOf Tryz.prog 150 0) 0 [] [0] [] ⟨sp 21 [(0, .sq l)], [], []⟩ [true, true] [] = some (Ex.normal, ⟨sp 21 [(0, AV.sq (List.drop 0 (List.take (Int.toNat ((↑(List.length l) : Int) - 1)) l)))], [], []⟩, [decide ((↑(List.length l) : Int) > 0) = true, inR IntKind.i64 ((↑(List.length l) : Int) - 1) = true, decide (0 ≤ (↑(List.length l) : Int) - 1) = true, decide ((↑(List.length l) : Int) - 1 < (↑(List.length l) : Int)) = true, decide (Int.toNat ((↑(List.length l) : Int) - 1) < List.length l) = true, (List.getD l (Int.toNat ((↑(List.length l) : Int) - 1)) 0 == 0) = true, inR IntKind.i64 ((↑(List.length l) : Int) - 1) = true, true = true, decide (0 ≤ (↑(List.length l) : Int) - 1) = true, decide ((↑(List.length l) : Int) - 1 ≤ (↑(List.length l) : Int)) = true]) := by kernel_rfl
theorem trimL_1 (l : List Int) : rndA (mkCfg Tryz.prog [] bw) 60 (lpOf Tryz.prog 150 0) 0 [] [0] [] ⟨sp 21 [(0, .sq l)], [], []⟩ [true, false] [] = some (Ex.exit 0, ⟨sp 21 [(0, AV.sq l)], [], []⟩, [decide ((↑(List.length l) : Int) > 0) = true, inR IntKind.i64 ((↑(List.length l) : Int) - 1) = true, decide (0 ≤ (↑(List.length l) : Int) - 1) = true, decide ((↑(List.length l) : Int) - 1 < (↑(List.length l) : Int)) = true, decide (Int.toNat ((↑(List.length l) : Int) - 1) < List.length l) = true, (List.getD l (Int.toNat ((↑(List.length l) : Int) - 1)) 0 == 0) = false]) := by kernel_rfl
theorem trimL_2 (l : List Int) : rndA (mkCfg Tryz.prog [] bw) 60 (lpOf Tryz.prog 150 0) 0 [] [0] [] ⟨sp 21 [(0, .sq l)], [], []⟩ [false] [] = some (Ex.exit 0, ⟨sp 21 [(0, AV.sq l)], [], []⟩, [decide ((↑(List.length l) : Int) > 0) = false]) := by kernel_rfl
theorem trim_0 (l : List Int) (r : List Int) : funA (mkCfg Tryz.prog [] bw) 60 150 [AV.sq l] [] [some (viaL Tryz.prog (lpOf Tryz.prog 150 0) [] [0] [] ⟨sp 21 [(0, .sq l)], [], []⟩ (.exit 0, ⟨sp 21 [(0, .sq r)], [], []⟩))] = some (AV.sq r, [LoopOK Tryz.prog (lpOf Tryz.prog 150 0) (viaL Tryz.prog (lpOf Tryz.prog 150 0) [] [0] [] ⟨sp 21 [(0, AV.sq l)], [], []⟩ (Ex.exit 0, ⟨sp 21 [(0, AV.sq r)], [], []⟩)), (⟨sp 21 [(0, AV.sq l)], [], []⟩ : St) = ⟨sp 21 [(0, AV.sq l)], [], []⟩, Loops 0 Tryz.prog (lpOf Tryz.prog 150 0) ⟨sp 21 [(0, AV.sq l)], [], []⟩ (Ex.exit 0, ⟨sp 21 [(0, AV.sq r)], [], []⟩)]) := by kernel_rfl
theorem ok0 : (mkCfg Tryz.prog [] bw).OK := cfg_ok CAll.nil

def pFloored (n : Int) : Prop := -9223372036854775808 ≤ n ∧ n ≤ 9223372036854775807
instance decFloored {n : Int} : Decidable (pFloored n) := inferInstanceAs (Decidable (_ ∧ _))
def rFloored (n : Int) : AV := .tup [.lit (.int .i64 (n / 100000000)), .lit (.int .i64 (n % 100000000))]
theorem floored_fc (n : Int) (h : pFloored n) : FC Tryz.prog 164 [.lit (.int .i64 n)] (rFloored n) := by
  obtain ⟨h1, h2⟩ := h
  have ht := Int.mul_tdiv_add_tmod n 100000000
  by_cases hn : Int.tmod n 100000000 < 0
  · have hp : n < 0 := by
      rcases Int.lt_or_le n 0 with h | h
      · exact h
      · have := Int.tmod_nonneg 100000000 h; omega
    have hb : -100000000 < Int.tmod n 100000000 := by
      have := Int.lt_tmod_of_pos n (show (0 : Int) < 100000000 by decide); omega
    have e1 : Int.tdiv n 100000000 - 1 = n / 100000000 := by omega
    have e2 : Int.tmod n 100000000 + 100000000 = n % 100000000 := by omega
    have := fc_fun ok0 (floored_0 n) (.cons (by simp) (.cons (inR64.2 (by omega)) (.cons (by simp) (.cons (by simpa using hn) (.cons (inR64.2 (by omega)) (.cons (inR64.2 (by omega)) .nil))))))
    rw [e1, e2] at this
    exact this
  · have hb : Int.tmod n 100000000 < 100000000 := Int.tmod_lt_of_pos n (by decide)
    have e1 : Int.tdiv n 100000000 = n / 100000000 := by omega
    have e2 : Int.tmod n 100000000 = n % 100000000 := by omega
    have := fc_fun ok0 (floored_1 n) (.cons (by simp) (.cons (inR64.2 (by omega)) (.cons (by simp) (.cons (by simpa using hn) .nil))))
    rw [e1, e2] at this
    exact this

/-- A bound on lengths. -/
def short64 (l : List Int) : Prop := l.length ≤ 4611686018427387904

theorem trim_loops : ∀ (n : Nat) (l : List Int), l.length = n → short64 l → Loops 0 Tryz.prog (lpOf Tryz.prog 150 0) ⟨sp 21 [(0, .sq l)], [], []⟩ (.exit 0, ⟨sp 21 [(0, .sq (trm l))], [], []⟩)
  | 0, l, hn, hs => by
    have : l = [] := List.eq_nil_of_length_eq_zero hn
    subst this
    exact Loops.fin (LS.of ok0 (trimL_2 []) (.cons (by simp) .nil)) (by simp [Ex.toExit])
  | n + 1, l, hn, hs => by
    obtain ⟨a, d, rfl⟩ : ∃ a d, l = a ++ [d] := by
      rcases List.eq_nil_or_concat l with rfl | ⟨a, d, h⟩
      · cases hn
      · exact ⟨a, d, by simpa using h⟩
    have hlen : (a ++ [d]).length = a.length + 1 := by simp
    unfold short64 at hs
    have hnat : Int.toNat (((a ++ [d]).length : Int) - 1) = a.length := by omega
    have hget : (a ++ [d]).getD (Int.toNat (((a ++ [d]).length : Int) - 1)) 0 = d := by rw [hnat]; simp [List.getD]
    by_cases hd : d = 0
    · subst hd
      have e : List.drop 0 (List.take (Int.toNat (((a ++ [(0 : Int)]).length : Int) - 1)) (a ++ [0])) = a := by rw [hnat]; simp
      have hgo := LS.of ok0 (trimL_0 (a ++ [0])) (by (repeat' (first | exact AllC.nil | refine AllC.cons ?_ ?_)); all_goals (first | exact viaL_ok | ((with_reducible refine inR64.2 ?_); omega) | (with_reducible refine pFl ?_ ?_ <;> omega) | ((with_reducible refine decide_eq_true ?_); omega) | ((with_reducible refine decide_eq_false ?_); omega) | omega | (simp [hnat, hget] <;> omega) | assumption | rfl))
      rw [e] at hgo
      rw [trm_zero]
      exact Loops.go hgo (trim_loops n a (by omega) (by unfold short64; omega))
    · have hgo := LS.of ok0 (trimL_1 (a ++ [d])) (by (repeat' (first | exact AllC.nil | refine AllC.cons ?_ ?_)); all_goals (first | exact viaL_ok | ((with_reducible refine inR64.2 ?_); omega) | (with_reducible refine pFl ?_ ?_ <;> omega) | ((with_reducible refine decide_eq_true ?_); omega) | ((with_reducible refine decide_eq_false ?_); omega) | omega | (simp [hnat, hget, hd] <;> omega) | assumption | rfl))
      rw [trm_last a d hd]
      exact Loops.fin hgo (by simp [Ex.toExit])
theorem trim_fc (l : List Int) (h : short64 l) : FC Tryz.prog 150 [.sq l] (.sq (trm l)) :=
  fc_fun ok0 (trim_0 l (trm l)) (.cons viaL_ok (.cons rfl (.cons (trim_loops _ l rfl h) .nil)))

def ctr1 : Ctr := [(164, cI pFloored rFloored), (150, cL short64 (fun l => .sq (trm l)))]
theorem ctr1_all : ∀ p ∈ ctr1, CtrOK Tryz.prog p.1 p.2 := CAll.cons (cI_ok floored_fc) (CAll.cons (cL_ok trim_fc) CAll.nil)
theorem ok1 : (mkCfg Tryz.prog ctr1 bw).OK := cfg_ok ctr1_all

end Go.Proofs.YtloaeinogiplbaaGreatDoor
end

section
open Go Go.Ev
namespace Go.Proofs.YtloaeinogiplbaaGreatDoor
open Go.Proofs
abbrev SN (x : List Int) : St := ⟨sp 92 [(0, .sq x), (2, .ref 0 0), (3, .lit (.slice none 0 0)), (4, .lit (.int .i64 0)), (5, .lit (.int .i64 0))], [.flat [.lit (.bool false), .lit (.slice none 0 0)] true], []⟩
abbrev SR (x : List Int) (i c : Int) (n : Nat) (out : List Int) : St := ⟨sp 92 [(0, .sq x), (2, .ref 0 0), (3, .own 1 0 n 1), (4, .lit (.int .i64 c)), (5, .lit (.int .i64 i))], [.flat [.lit (.bool false), .lit (.slice none 0 0)] true, .ints out true], []⟩
abbrev SC (b k : Int) (n : Nat) (out : List Int) : St := ⟨sp 92 [(2, .ref 0 0), (3, .own 1 0 n 1), (10, .lit (.int .i64 b)), (58, .own 1 0 n 1), (59, .lit (.int .i64 (n : Int))), (60, .lit (.int .i64 k))], [.flat [.lit (.bool false), .lit (.slice none 0 0)] true, .ints out true], [1]⟩
end Go.Proofs.YtloaeinogiplbaaGreatDoor
end

section
open Go Go.Ev Go.RowKit
namespace Go.Proofs.YtloaeinogiplbaaGreatDoor
open Go.Proofs
set_option maxRecDepth 100000
set_option maxHeartbeats 1000000
set_option linter.unusedVariables false
set_option linter.unusedSimpArgs false


theorem readN_0 (x : List Int) : rndA (mkCfg Tryz.prog ctr1 bw) 60 (lpOf Tryz.prog 124 0) 1 [2] [0, 2, 3, 4, 5] [] ⟨sp 92 [(0,.sq x),(2,.ref 0 0),(3,.lit (.slice none 0 0)),(4,.lit (.int .i64 0)),(5, .lit (.int .i64 0))], [.flat [.lit (.bool false), .lit (.slice none 0 0)] true], []⟩ [true, true] [] = some (Ex.normal, ⟨sp 92 [(0, AV.sq x), (2, AV.ref 0 0), (3, AV.own 1 0 1 1), (4, aI (List.getD x 0 0 / 100000000 + (List.getD x 0 0 % 100000000 + 0) / 100000000)), (5, aI 1)], [Row.flat [aF, aN] true, Row.ints [(List.getD x 0 0 % 100000000 + 0) % 100000000] true], []⟩, [decide (0 < (↑(List.length x) : Int)) = true, decide (0 < (↑(List.length x) : Int)) = true, true = true, decide (0 < (↑(List.length x) : Int)) = true, decide (0 < List.length x) = true, pFloored (List.getD x 0 0), inR IntKind.i64 (List.getD x 0 0 % 100000000 + 0) = true, pFloored (List.getD x 0 0 % 100000000 + 0), true = true, true = true, true = true, decide (List.length (List.take 1 [(List.getD x 0 0 % 100000000 + 0) % 100000000]) = 1) = true, inR IntKind.i64 (List.getD x 0 0 / 100000000 + (List.getD x 0 0 % 100000000 + 0) / 100000000) = true, true = true]) := by kernel_rfl
theorem readE_2 (x : List Int) : rndA (mkCfg Tryz.prog ctr1 bw) 60 (lpOf Tryz.prog 124 0) 1 [] [0, 2, 3, 4, 5] [] ⟨sp 92 [(0,.sq x),(2,.ref 0 0),(3,.lit (.slice none 0 0)),(4,.lit (.int .i64 0)),(5, .lit (.int .i64 0))], [.flat [.lit (.bool false), .lit (.slice none 0 0)] true], []⟩ [false, false] [] = some (Ex.exit 0, ⟨sp 92 [(0, AV.sq x), (2, AV.ref 0 0), (3, aN), (4, aI 0), (5, aI 0)], [Row.flat [aF, aN] true], []⟩, [decide (0 < (↑(List.length x) : Int)) = false, false = false]) := by kernel_rfl
theorem readS_0 (x : List Int) (i c : Int) (n : Nat) (out : List Int) : rndA (mkCfg Tryz.prog ctr1 bw) 60 (lpOf Tryz.prog 124 0) 1 [3] [0, 2, 3, 4, 5] [] ⟨sp 92 [(0,.sq x),(2,.ref 0 0),(3,.own 1 0 n 1),(4,.lit (.int .i64 c)),(5, .lit (.int .i64 i))], [.flat [.lit (.bool false), .lit (.slice none 0 0)] true, .ints out true], []⟩ [true, true] [] = some (Ex.normal, ⟨sp 92 [(0, AV.sq x), (2, AV.ref 0 0), (3, AV.own 1 0 (n + 1) 1), (4, aI (List.getD x (Int.toNat i) 0 / 100000000 + (List.getD x (Int.toNat i) 0 % 100000000 + c) / 100000000)), (5, aI (i + 1))], [Row.flat [aF, aN] true, Row.ints (List.take n out ++ List.take 1 [(List.getD x (Int.toNat i) 0 % 100000000 + c) % 100000000]) true], []⟩, [decide (i < (↑(List.length x) : Int)) = true, decide (i < (↑(List.length x) : Int)) = true, decide (0 ≤ i) = true, decide (i < (↑(List.length x) : Int)) = true, decide (Int.toNat i < List.length x) = true, pFloored (List.getD x (Int.toNat i) 0), inR IntKind.i64 (List.getD x (Int.toNat i) 0 % 100000000 + c) = true, pFloored (List.getD x (Int.toNat i) 0 % 100000000 + c), decide ((n + 1) * 8 ≤ 140737488355328) = true, decide (n + 1 ≤ 4611686018427387904) = true, decide (n ≤ List.length out) = true, decide (List.length (List.take 1 [(List.getD x (Int.toNat i) 0 % 100000000 + c) % 100000000]) = 1) = true, inR IntKind.i64 (List.getD x (Int.toNat i) 0 / 100000000 + (List.getD x (Int.toNat i) 0 % 100000000 + c) / 100000000) = true, inR IntKind.i64 (i + 1) = true]) := by kernel_rfl
theorem readS_3 (x : List Int) (i c : Int) (n : Nat) (out : List Int) : rndA (mkCfg Tryz.prog ctr1 bw) 60 (lpOf Tryz.prog 124 0) 1 [3] [0, 2, 3, 4, 5] [] ⟨sp 92 [(0,.sq x),(2,.ref 0 0),(3,.own 1 0 n 1),(4,.lit (.int .i64 c)),(5, .lit (.int .i64 i))], [.flat [.lit (.bool false), .lit (.slice none 0 0)] true, .ints out true], []⟩ [false, true, true, false] [] = some (Ex.normal, ⟨sp 92 [(0, AV.sq x), (2, AV.ref 0 0), (3, AV.own 1 0 (n + 1) 1), (4, aI (0 + (0 + c) / 100000000)), (5, aI (i + 1))], [Row.flat [aF, aN] true, Row.ints (List.take n out ++ List.take 1 [(0 + c) % 100000000]) true], []⟩, [decide (i < (↑(List.length x) : Int)) = false, (c != 0) = true, (c != -1) = true, decide (i < (↑(List.length x) : Int)) = false, inR IntKind.i64 (0 + c) = true, pFloored (0 + c), decide ((n + 1) * 8 ≤ 140737488355328) = true, decide (n + 1 ≤ 4611686018427387904) = true, decide (n ≤ List.length out) = true, decide (List.length (List.take 1 [(0 + c) % 100000000]) = 1) = true, inR IntKind.i64 (0 + (0 + c) / 100000000) = true, inR IntKind.i64 (i + 1) = true]) := by kernel_rfl
theorem readX_4 (x : List Int) (i c : Int) (n : Nat) (out : List Int) : rndA (mkCfg Tryz.prog ctr1 bw) 60 (lpOf Tryz.prog 124 0) 1 [1] [0, 2, 3, 4, 5] [] ⟨sp 92 [(0,.sq x),(2,.ref 0 0),(3,.own 1 0 n 1),(4,.lit (.int .i64 c)),(5, .lit (.int .i64 i))], [.flat [.lit (.bool false), .lit (.slice none 0 0)] true, .ints out true], []⟩ [false, true, false] [] = some (Ex.exit 0, ⟨sp 92 [(0, AV.sq x), (2, AV.ref 0 0), (3, AV.own 1 0 n 1), (4, aI c), (5, aI i)], [Row.flat [aF, aN] true, Row.ints out true], []⟩, [decide (i < (↑(List.length x) : Int)) = false, (c != 0) = true, (c != -1) = false]) := by kernel_rfl
theorem readX_5 (x : List Int) (i c : Int) (n : Nat) (out : List Int) : rndA (mkCfg Tryz.prog ctr1 bw) 60 (lpOf Tryz.prog 124 0) 1 [1] [0, 2, 3, 4, 5] [] ⟨sp 92 [(0,.sq x),(2,.ref 0 0),(3,.own 1 0 n 1),(4,.lit (.int .i64 c)),(5, .lit (.int .i64 i))], [.flat [.lit (.bool false), .lit (.slice none 0 0)] true, .ints out true], []⟩ [false, false] [] = some (Ex.exit 0, ⟨sp 92 [(0, AV.sq x), (2, AV.ref 0 0), (3, AV.own 1 0 n 1), (4, aI c), (5, aI i)], [Row.flat [aF, aN] true, Row.ints out true], []⟩, [decide (i < (↑(List.length x) : Int)) = false, (c != 0) = false]) := by kernel_rfl
theorem readC_0 (b k : Int) (n : Nat) (out : List Int) : rndA (mkCfg Tryz.prog ctr1 bw) 60 (lpOf Tryz.prog 124 1) 2 [] [2, 3, 10, 58, 59, 60] [1] ⟨sp 92 [(2,.ref 0 0),(3,.own 1 0 n 1),(10,.lit (.int .i64 b)),(58,.own 1 0 n 1),(59,.lit (.int .i64 n)),(60, .lit (.int .i64 k))], [.flat [.lit (.bool false), .lit (.slice none 0 0)] true, .ints out true], [1]⟩ [true, true] [] = some (Ex.normal, ⟨sp 92 [(2, AV.ref 0 0), (3, AV.own 1 0 n 1), (10, aI 1), (58, AV.own 1 0 n 1), (59, aI (↑n : Int)), (60, aI (k + 1))], [Row.flat [aF, aN] true, Row.ints (List.set (List.set out (0 + Int.toNat k * 1) (0 - List.getD out (0 + Int.toNat k * 1) 0 - b)) (0 + Int.toNat k * 1) (List.getD (List.set out (0 + Int.toNat k * 1) (0 - List.getD out (0 + Int.toNat k * 1) 0 - b)) (0 + Int.toNat k * 1) 0 + 100000000)) true], [1]⟩, [decide (k < (↑n : Int)) = true, decide (0 ≤ k) = true, decide (k < (↑n : Int)) = true, decide (0 + Int.toNat k * 1 < List.length out) = true, inR IntKind.i64 (0 - List.getD out (0 + Int.toNat k * 1) 0) = true, inR IntKind.i64 (0 - List.getD out (0 + Int.toNat k * 1) 0 - b) = true, decide (0 ≤ k) = true, decide (k < (↑n : Int)) = true, decide (0 + Int.toNat k * 1 < List.length out) = true, decide (0 ≤ k) = true, decide (k < (↑n : Int)) = true, decide (0 + Int.toNat k * 1 < List.length (List.set out (0 + Int.toNat k * 1) (0 - List.getD out (0 + Int.toNat k * 1) 0 - b))) = true, decide (List.getD (List.set out (0 + Int.toNat k * 1) (0 - List.getD out (0 + Int.toNat k * 1) 0 - b)) (0 + Int.toNat k * 1) 0 < 0) = true, decide (0 ≤ k) = true, decide (k < (↑n : Int)) = true, decide (0 + Int.toNat k * 1 < List.length (List.set out (0 + Int.toNat k * 1) (0 - List.getD out (0 + Int.toNat k * 1) 0 - b))) = true, inR IntKind.i64 (List.getD (List.set out (0 + Int.toNat k * 1) (0 - List.getD out (0 + Int.toNat k * 1) 0 - b)) (0 + Int.toNat k * 1) 0 + 100000000) = true, decide (0 ≤ k) = true, decide (k < (↑n : Int)) = true, decide (0 + Int.toNat k * 1 < List.length (List.set out (0 + Int.toNat k * 1) (0 - List.getD out (0 + Int.toNat k * 1) 0 - b))) = true, inR IntKind.i64 (k + 1) = true]) := by kernel_rfl
theorem readC_1 (b k : Int) (n : Nat) (out : List Int) : rndA (mkCfg Tryz.prog ctr1 bw) 60 (lpOf Tryz.prog 124 1) 2 [] [2, 3, 10, 58, 59, 60] [1] ⟨sp 92 [(2,.ref 0 0),(3,.own 1 0 n 1),(10,.lit (.int .i64 b)),(58,.own 1 0 n 1),(59,.lit (.int .i64 n)),(60, .lit (.int .i64 k))], [.flat [.lit (.bool false), .lit (.slice none 0 0)] true, .ints out true], [1]⟩ [true, false] [] = some (Ex.normal, ⟨sp 92 [(2, AV.ref 0 0), (3, AV.own 1 0 n 1), (10, aI 0), (58, AV.own 1 0 n 1), (59, aI (↑n : Int)), (60, aI (k + 1))], [Row.flat [aF, aN] true, Row.ints (List.set out (0 + Int.toNat k * 1) (0 - List.getD out (0 + Int.toNat k * 1) 0 - b)) true], [1]⟩, [decide (k < (↑n : Int)) = true, decide (0 ≤ k) = true, decide (k < (↑n : Int)) = true, decide (0 + Int.toNat k * 1 < List.length out) = true, inR IntKind.i64 (0 - List.getD out (0 + Int.toNat k * 1) 0) = true, inR IntKind.i64 (0 - List.getD out (0 + Int.toNat k * 1) 0 - b) = true, decide (0 ≤ k) = true, decide (k < (↑n : Int)) = true, decide (0 + Int.toNat k * 1 < List.length out) = true, decide (0 ≤ k) = true, decide (k < (↑n : Int)) = true, decide (0 + Int.toNat k * 1 < List.length (List.set out (0 + Int.toNat k * 1) (0 - List.getD out (0 + Int.toNat k * 1) 0 - b))) = true, decide (List.getD (List.set out (0 + Int.toNat k * 1) (0 - List.getD out (0 + Int.toNat k * 1) 0 - b)) (0 + Int.toNat k * 1) 0 < 0) = false, inR IntKind.i64 (k + 1) = true]) := by kernel_rfl
theorem readC_2 (b k : Int) (n : Nat) (out : List Int) : rndA (mkCfg Tryz.prog ctr1 bw) 60 (lpOf Tryz.prog 124 1) 2 [] [2, 3, 10, 58, 59, 60] [1] ⟨sp 92 [(2,.ref 0 0),(3,.own 1 0 n 1),(10,.lit (.int .i64 b)),(58,.own 1 0 n 1),(59,.lit (.int .i64 n)),(60, .lit (.int .i64 k))], [.flat [.lit (.bool false), .lit (.slice none 0 0)] true, .ints out true], [1]⟩ [false] [] = some (Ex.exit 2, ⟨sp 92 [(2, AV.ref 0 0), (3, AV.own 1 0 n 1), (10, aI b), (58, AV.own 1 0 n 1), (59, aI (↑n : Int)), (60, aI k)], [Row.flat [aF, aN] true, Row.ints out true], [1]⟩, [decide (k < (↑n : Int)) = false]) := by kernel_rfl
theorem readF_0 (x : List Int) (i : Int) (out : List Int) (n : Nat) : funA (mkCfg Tryz.prog ctr1 bw) 60 124 [.sq x] [true] [some (viaL Tryz.prog (lpOf Tryz.prog 124 0) [] [0,2,3,4,5] [] (SN x) (.exit 0, SR x i 0 n out))] = some (AV.agg [aF, AV.sq (trm (List.take n out))], [LoopOK Tryz.prog (lpOf Tryz.prog 124 0) (viaL Tryz.prog (lpOf Tryz.prog 124 0) [] [0, 2, 3, 4, 5] [] ⟨sp 92 [(0, AV.sq x), (2, AV.ref 0 0), (3, aN), (4, aI 0), (5, aI 0)], [Row.flat [aF, aN] true], []⟩ (Ex.exit 0, ⟨sp 92 [(0, AV.sq x), (2, AV.ref 0 0), (3, AV.own 1 0 n 1), (4, aI 0), (5, aI i)], [Row.flat [aF, aN] true, Row.ints out true], []⟩)), (⟨sp 92 [(0, AV.sq x), (2, AV.ref 0 0), (3, aN), (4, aI 0), (5, aI 0)], [Row.flat [aF, aN] true], []⟩ : St) = ⟨sp 92 [(0, AV.sq x), (2, AV.ref 0 0), (3, aN), (4, aI 0), (5, aI 0)], [Row.flat [aF, aN] true], []⟩, Loops 1 Tryz.prog (lpOf Tryz.prog 124 0) ⟨sp 92 [(0, AV.sq x), (2, AV.ref 0 0), (3, aN), (4, aI 0), (5, aI 0)], [Row.flat [aF, aN] true], []⟩ (Ex.exit 0, ⟨sp 92 [(0, AV.sq x), (2, AV.ref 0 0), (3, AV.own 1 0 n 1), (4, aI 0), (5, aI i)], [Row.flat [aF, aN] true, Row.ints out true], []⟩), true = true, n ≤ List.length out, short64 (List.take n out)]) := by kernel_rfl
theorem readG_0 (x : List Int) : funA (mkCfg Tryz.prog ctr1 bw) 60 124 [.sq x] [true] [some (viaL Tryz.prog (lpOf Tryz.prog 124 0) [] [0,2,3,4,5] [] (SN x) (.exit 0, SN x))] = some (AV.agg [aF, AV.sq []], [LoopOK Tryz.prog (lpOf Tryz.prog 124 0) (viaL Tryz.prog (lpOf Tryz.prog 124 0) [] [0, 2, 3, 4, 5] [] ⟨sp 92 [(0, AV.sq x), (2, AV.ref 0 0), (3, aN), (4, aI 0), (5, aI 0)], [Row.flat [aF, aN] true], []⟩ (Ex.exit 0, ⟨sp 92 [(0, AV.sq x), (2, AV.ref 0 0), (3, aN), (4, aI 0), (5, aI 0)], [Row.flat [aF, aN] true], []⟩)), (⟨sp 92 [(0, AV.sq x), (2, AV.ref 0 0), (3, aN), (4, aI 0), (5, aI 0)], [Row.flat [aF, aN] true], []⟩ : St) = ⟨sp 92 [(0, AV.sq x), (2, AV.ref 0 0), (3, aN), (4, aI 0), (5, aI 0)], [Row.flat [aF, aN] true], []⟩, Loops 1 Tryz.prog (lpOf Tryz.prog 124 0) ⟨sp 92 [(0, AV.sq x), (2, AV.ref 0 0), (3, aN), (4, aI 0), (5, aI 0)], [Row.flat [aF, aN] true], []⟩ (Ex.exit 0, ⟨sp 92 [(0, AV.sq x), (2, AV.ref 0 0), (3, aN), (4, aI 0), (5, aI 0)], [Row.flat [aF, aN] true], []⟩), true = true, short64 []]) := by kernel_rfl
abbrev readH_0_s0 (out2 : List Int) (n : Nat) (b : Int) (k : Int) : St := ⟨sp 92 [(2, AV.ref 0 0), (3, AV.own 1 0 n 1), (10, aI b), (58, AV.own 1 0 n 1), (59, aI (↑n : Int)), (60, aI k)], [Row.flat [aF, aN] true, Row.ints out2 true], [1]⟩
abbrev readH_0_s1 (out : List Int) (n : Nat) : St := ⟨sp 92 [(2, AV.ref 0 0), (3, AV.own 1 0 n 1), (10, aI 0), (58, AV.own 1 0 n 1), (59, aI (↑n : Int)), (60, aI 0)], [Row.flat [aF, aN] true, Row.ints out true], [1]⟩
theorem readH_0 (x : List Int) (i : Int) (out out2 : List Int) (n : Nat) (b : Int) (k : Int) : funA (mkCfg Tryz.prog ctr1 bw) 60 124 [.sq x] [false, true] [some (viaL Tryz.prog (lpOf Tryz.prog 124 0) [] [0,2,3,4,5] [] (SN x) (.exit 0, SR x i (-1) n out)), some (viaL Tryz.prog (lpOf Tryz.prog 124 1) [] [2,3,10,58,59,60] [1] (SC 0 0 n out) (.exit 2, SC b k n out2))] = some (AV.agg [AV.tt, AV.sq (trm (List.take (n + 1) (List.take n out2 ++ List.take 1 [1])))], [LoopOK Tryz.prog (lpOf Tryz.prog 124 0) (viaL Tryz.prog (lpOf Tryz.prog 124 0) [] [0, 2, 3, 4, 5] [] ⟨sp 92 [(0, AV.sq x), (2, AV.ref 0 0), (3, aN), (4, aI 0), (5, aI 0)], [Row.flat [aF, aN] true], []⟩ (Ex.exit 0, ⟨sp 92 [(0, AV.sq x), (2, AV.ref 0 0), (3, AV.own 1 0 n 1), (4, aI (-1)), (5, aI i)], [Row.flat [aF, aN] true, Row.ints out true], []⟩)), (⟨sp 92 [(0, AV.sq x), (2, AV.ref 0 0), (3, aN), (4, aI 0), (5, aI 0)], [Row.flat [aF, aN] true], []⟩ : St) = ⟨sp 92 [(0, AV.sq x), (2, AV.ref 0 0), (3, aN), (4, aI 0), (5, aI 0)], [Row.flat [aF, aN] true], []⟩, Loops 1 Tryz.prog (lpOf Tryz.prog 124 0) ⟨sp 92 [(0, AV.sq x), (2, AV.ref 0 0), (3, aN), (4, aI 0), (5, aI 0)], [Row.flat [aF, aN] true], []⟩ (Ex.exit 0, ⟨sp 92 [(0, AV.sq x), (2, AV.ref 0 0), (3, AV.own 1 0 n 1), (4, aI (-1)), (5, aI i)], [Row.flat [aF, aN] true, Row.ints out true], []⟩), false = false, LoopOK Tryz.prog (lpOf Tryz.prog 124 1) (viaL Tryz.prog (lpOf Tryz.prog 124 1) [] [2, 3, 10, 58, 59, 60] [1] (readH_0_s1 out n) (Ex.exit 2, (readH_0_s0 out2 n b k))), (readH_0_s1 out n) = (readH_0_s1 out n), Loops 2 Tryz.prog (lpOf Tryz.prog 124 1) (readH_0_s1 out n) (Ex.exit 2, (readH_0_s0 out2 n b k)), (b == 0) = true, decide ((n + 1) * 8 ≤ 140737488355328) = true, decide (n + 1 ≤ 4611686018427387904) = true, decide (n ≤ List.length out2) = true, true = true, n + 1 ≤ List.length (List.take n out2 ++ List.take 1 [1]), short64 (List.take (n + 1) (List.take n out2 ++ List.take 1 [1]))]) := by kernel_rfl
abbrev readH_1_s0 (out2 : List Int) (n : Nat) (b : Int) (k : Int) : St := ⟨sp 92 [(2, AV.ref 0 0), (3, AV.own 1 0 n 1), (10, aI b), (58, AV.own 1 0 n 1), (59, aI (↑n : Int)), (60, aI k)], [Row.flat [aF, aN] true, Row.ints out2 true], [1]⟩
abbrev readH_1_s1 (out : List Int) (n : Nat) : St := ⟨sp 92 [(2, AV.ref 0 0), (3, AV.own 1 0 n 1), (10, aI 0), (58, AV.own 1 0 n 1), (59, aI (↑n : Int)), (60, aI 0)], [Row.flat [aF, aN] true, Row.ints out true], [1]⟩
theorem readH_1 (x : List Int) (i : Int) (out out2 : List Int) (n : Nat) (b : Int) (k : Int) : funA (mkCfg Tryz.prog ctr1 bw) 60 124 [.sq x] [false, false] [some (viaL Tryz.prog (lpOf Tryz.prog 124 0) [] [0,2,3,4,5] [] (SN x) (.exit 0, SR x i (-1) n out)), some (viaL Tryz.prog (lpOf Tryz.prog 124 1) [] [2,3,10,58,59,60] [1] (SC 0 0 n out) (.exit 2, SC b k n out2))] = some (AV.agg [AV.tt, AV.sq (trm (List.take n out2))], [LoopOK Tryz.prog (lpOf Tryz.prog 124 0) (viaL Tryz.prog (lpOf Tryz.prog 124 0) [] [0, 2, 3, 4, 5] [] ⟨sp 92 [(0, AV.sq x), (2, AV.ref 0 0), (3, aN), (4, aI 0), (5, aI 0)], [Row.flat [aF, aN] true], []⟩ (Ex.exit 0, ⟨sp 92 [(0, AV.sq x), (2, AV.ref 0 0), (3, AV.own 1 0 n 1), (4, aI (-1)), (5, aI i)], [Row.flat [aF, aN] true, Row.ints out true], []⟩)), (⟨sp 92 [(0, AV.sq x), (2, AV.ref 0 0), (3, aN), (4, aI 0), (5, aI 0)], [Row.flat [aF, aN] true], []⟩ : St) = ⟨sp 92 [(0, AV.sq x), (2, AV.ref 0 0), (3, aN), (4, aI 0), (5, aI 0)], [Row.flat [aF, aN] true], []⟩, Loops 1 Tryz.prog (lpOf Tryz.prog 124 0) ⟨sp 92 [(0, AV.sq x), (2, AV.ref 0 0), (3, aN), (4, aI 0), (5, aI 0)], [Row.flat [aF, aN] true], []⟩ (Ex.exit 0, ⟨sp 92 [(0, AV.sq x), (2, AV.ref 0 0), (3, AV.own 1 0 n 1), (4, aI (-1)), (5, aI i)], [Row.flat [aF, aN] true, Row.ints out true], []⟩), false = false, LoopOK Tryz.prog (lpOf Tryz.prog 124 1) (viaL Tryz.prog (lpOf Tryz.prog 124 1) [] [2, 3, 10, 58, 59, 60] [1] (readH_1_s1 out n) (Ex.exit 2, (readH_1_s0 out2 n b k))), (readH_1_s1 out n) = (readH_1_s1 out n), Loops 2 Tryz.prog (lpOf Tryz.prog 124 1) (readH_1_s1 out n) (Ex.exit 2, (readH_1_s0 out2 n b k)), (b == 0) = false, n ≤ List.length out2, short64 (List.take n out2)]) := by kernel_rfl
theorem getD_mid (pre : List Int) (s : Int) (suf : List Int) (d : Int) : (pre ++ s :: suf).getD pre.length d = s := by simp [List.getD]
theorem set_mid (pre : List Int) (s : Int) (suf : List Int) (v : Int) : (pre ++ s :: suf).set pre.length v = pre ++ v :: suf := by simp
theorem take_snoc (out : List Int) (d : Int) : List.take out.length out ++ List.take 1 [d] = out ++ [d] := by simp
theorem pow_nn (n : Nat) : (0 : Int) ≤ 100000000 ^ n := Int.le_of_lt (pow_pos n)

theorem alg1 (P d t : Int) : P * (d + 100000000 * t) = P * d + P * 100000000 * t := by rw [Int.mul_add, Int.mul_assoc]
theorem alg2 (v P d t : Int) : v + P * d - P * 100000000 * t = v - P * (-d + 100000000 * t) := by rw [alg1, Int.mul_neg]; omega
/-- One digit more. -/
theorem vl_step (out : List Int) (c xi d c' v : Int) (h : xi + c = d + 100000000 * c') :
    vl (out ++ [d]) + 100000000 ^ (out ++ [d]).length * (c' + v) = vl out + 100000000 ^ out.length * (c + (xi + 100000000 * v)) := by
  have e : c + (xi + 100000000 * v) = d + 100000000 * (c' + v) := by omega
  rw [e, vl_snoc, List.length_append, List.length_singleton, Int.pow_succ, alg1, Int.add_assoc]

theorem readA : ∀ (m : Nat) (x : List Int) (i c : Int) (out : List Int), c.natAbs ≤ m → (x.length : Int) ≤ i → i + m ≤ 8796093022208 → Digs out → -1000000000000 ≤ c → c ≤ 1000000000000 → out.length + m ≤ 8796093022208 →
    ∃ (i' c' : Int) (out' : List Int), (c' = 0 ∨ c' = -1) ∧ Digs out' ∧ vl out' + 100000000 ^ out'.length * c' = vl out + 100000000 ^ out.length * c ∧ out'.length ≤ out.length + m ∧
      Loops 1 Tryz.prog (lpOf Tryz.prog 124 0) (SR x i c out.length out) (.exit 0, SR x i' c' out'.length out') := by
  intro m
  induction m with
  | zero =>
    intro x i c out hc hi hi2 hd h1 h2 hl
    have : c = 0 := by omega
    subst this
    have h := LS.of ok1 (readX_5 x i 0 out.length out) (by (repeat' (first | exact AllC.nil | refine AllC.cons ?_ ?_)); all_goals (first | exact viaL_ok | ((with_reducible refine inR64.2 ?_); omega) | (with_reducible refine pFl ?_ ?_ <;> omega) | ((with_reducible refine decide_eq_true ?_); omega) | ((with_reducible refine decide_eq_false ?_); omega) | omega | (simp [hi] <;> omega) | assumption | rfl))
    exact ⟨i, 0, out, .inl rfl, hd, rfl, by omega, Loops.fin h (by simp [Ex.toExit])⟩
  | succ m ih =>
    intro x i c out hc hi hi2 hd h1 h2 hl
    by_cases h0 : c = 0
    · subst h0
      have h := LS.of ok1 (readX_5 x i 0 out.length out) (by (repeat' (first | exact AllC.nil | refine AllC.cons ?_ ?_)); all_goals (first | exact viaL_ok | ((with_reducible refine inR64.2 ?_); omega) | (with_reducible refine pFl ?_ ?_ <;> omega) | ((with_reducible refine decide_eq_true ?_); omega) | ((with_reducible refine decide_eq_false ?_); omega) | omega | (simp [hi] <;> omega) | assumption | rfl))
      exact ⟨i, 0, out, .inl rfl, hd, rfl, by omega, Loops.fin h (by simp [Ex.toExit])⟩
    by_cases h3 : c = -1
    · subst h3
      have h := LS.of ok1 (readX_4 x i (-1) out.length out) (by (repeat' (first | exact AllC.nil | refine AllC.cons ?_ ?_)); all_goals (first | exact viaL_ok | ((with_reducible refine inR64.2 ?_); omega) | (with_reducible refine pFl ?_ ?_ <;> omega) | ((with_reducible refine decide_eq_true ?_); omega) | ((with_reducible refine decide_eq_false ?_); omega) | omega | (simp [hi] <;> omega) | assumption | rfl))
      exact ⟨i, -1, out, .inr rfl, hd, rfl, by omega, Loops.fin h (by simp [Ex.toExit])⟩
    have h := LS.of ok1 (readS_3 x i c out.length out) (by (repeat' (first | exact AllC.nil | refine AllC.cons ?_ ?_)); all_goals (first | exact viaL_ok | ((with_reducible refine inR64.2 ?_); omega) | (with_reducible refine pFl ?_ ?_ <;> omega) | ((with_reducible refine decide_eq_true ?_); omega) | ((with_reducible refine decide_eq_false ?_); omega) | omega | (simp [hi, h0, h3, pFloored] <;> omega) | assumption | rfl))
    rw [take_snoc] at h
    have e : out.length + 1 = (out ++ [(0 + c) % 100000000]).length := by simp
    rw [e] at h
    have hd2 : Digs (out ++ [(0 + c) % 100000000]) := by
      intro d hd'
      rcases List.mem_append.1 hd' with h | h
      · exact hd d h
      · simp at h; subst h; omega
    obtain ⟨i', c', out', k1, k2, k3, k4, k5⟩ := ih x (i + 1) (0 + (0 + c) / 100000000) (out ++ [(0 + c) % 100000000]) (by omega) (by omega) (by omega) hd2 (by omega) (by omega) (by simp; omega)
    refine ⟨i', c', out', k1, k2, ?_, by simp at k4; omega, Loops.go h k5⟩
    have := vl_step out c 0 ((0 + c) % 100000000) (0 + (0 + c) / 100000000) 0 (by omega)
    simp only [Int.add_zero, Int.mul_zero] at this
    rw [k3, this]

def pRead (x : List Int) : Prop := (x.length : Int) ≤ 1099511627776 ∧ ∀ d ∈ x, pFloored d

theorem readB : ∀ (k : Nat) (x : List Int) (c : Int) (out : List Int), pRead x → x.length = out.length + k → Digs out → -1000000000000 ≤ c → c ≤ 1000000000000 →
    ∃ (i' c' : Int) (out' : List Int), (c' = 0 ∨ c' = -1) ∧ Digs out' ∧ vl out' + 100000000 ^ out'.length * c' = vl out + 100000000 ^ out.length * (c + vl (x.drop out.length)) ∧ out'.length ≤ 2199023255552 ∧
      Loops 1 Tryz.prog (lpOf Tryz.prog 124 0) (SR x (out.length : Int) c out.length out) (.exit 0, SR x i' c' out'.length out') := by
  intro k
  induction k with
  | zero =>
    intro x c out hx hk hd h1 h2
    have hx1 := hx.1
    obtain ⟨i', c', out', k1, k2, k3, k4, k5⟩ := readA c.natAbs x out.length c out (Nat.le_refl _) (by omega) (by omega) hd h1 h2 (by omega)
    refine ⟨i', c', out', k1, k2, ?_, by omega, k5⟩
    rw [List.drop_eq_nil_of_le (by omega), k3]; simp [vl]
  | succ k ih =>
    intro x c out hx hk hd h1 h2
    have hx1 := hx.1
    have hlt : out.length < x.length := by omega
    have hg : x.getD out.length 0 = x[out.length] := by simp [List.getD, hlt]
    have hnat : Int.toNat (out.length : Int) = out.length := by omega
    have hb := hx.2 (x[out.length]) (List.getElem_mem hlt)
    have hb' := hb
    unfold pFloored at hb'
    have h := LS.of ok1 (readS_0 x out.length c out.length out) (by
      rw [hnat, hg]
      exact (by (repeat' (first | exact AllC.nil | refine AllC.cons ?_ ?_)); all_goals (first | exact viaL_ok | ((with_reducible refine inR64.2 ?_); omega) | (with_reducible refine pFl ?_ ?_ <;> omega) | ((with_reducible refine decide_eq_true ?_); omega) | ((with_reducible refine decide_eq_false ?_); omega) | omega | (simp [hlt, pFloored] <;> omega) | assumption | rfl)))
    rw [hnat, hg, take_snoc] at h
    generalize hq : x[out.length] = xi at *
    have e : out.length + 1 = (out ++ [(xi % 100000000 + c) % 100000000]).length := by simp
    have e2 : (out.length : Int) + 1 = ((out ++ [(xi % 100000000 + c) % 100000000]).length : Nat) := by simp
    rw [e, e2] at h
    have hd2 : Digs (out ++ [(xi % 100000000 + c) % 100000000]) := by
      intro d hd'
      rcases List.mem_append.1 hd' with h | h
      · exact hd d h
      · simp at h; subst h; omega
    obtain ⟨i', c', out', k1, k2, k3, k4, k5⟩ := ih x (xi / 100000000 + (xi % 100000000 + c) / 100000000) (out ++ [(xi % 100000000 + c) % 100000000]) hx (by simp; omega) hd2 (by omega) (by omega)
    refine ⟨i', c', out', k1, k2, ?_, k4, Loops.go h k5⟩
    rw [k3]
    have hdrop : x.drop out.length = xi :: x.drop (out.length + 1) := by rw [List.drop_eq_getElem_cons hlt, hq]
    rw [hdrop]
    have := vl_step out c xi ((xi % 100000000 + c) % 100000000) (xi / 100000000 + (xi % 100000000 + c) / 100000000) (vl (x.drop (out.length + 1))) (by omega)
    simp only [List.length_append, List.length_singleton] at this ⊢
    simp only [vl]
    exact this

theorem readC : ∀ (suf pre : List Int) (b : Int) (n : Nat), (b = 0 ∨ b = 1) → Digs pre → Digs suf → n = pre.length + suf.length → n ≤ 4611686018427387 →
    ∃ (pre' : List Int) (b' : Int), Digs pre' ∧ pre'.length = n ∧ (b' = 0 ∨ b' = 1) ∧ vl pre' - 100000000 ^ n * b' = vl pre - 100000000 ^ pre.length * (b + vl suf) ∧
      Loops 2 Tryz.prog (lpOf Tryz.prog 124 1) (SC b pre.length n (pre ++ suf)) (.exit 2, SC b' n n pre')
  | [], pre, b, n, hb, hp, hs, hn, hl => by
    simp only [List.length_nil, Nat.add_zero] at hn
    subst hn
    refine ⟨pre, b, hp, rfl, hb, by simp [vl], ?_⟩
    rw [List.append_nil]
    exact Loops.fin (LS.of ok1 (readC_2 b pre.length pre.length pre) (by (repeat' (first | exact AllC.nil | refine AllC.cons ?_ ?_)); all_goals (first | exact viaL_ok | ((with_reducible refine inR64.2 ?_); omega) | (with_reducible refine pFl ?_ ?_ <;> omega) | ((with_reducible refine decide_eq_true ?_); omega) | ((with_reducible refine decide_eq_false ?_); omega) | omega | (simp [] <;> omega) | assumption | rfl))) (by simp [Ex.toExit])
  | s :: suf, pre, b, n, hb, hp, hs, hn, hl => by
    have hs0 := hs s (by simp)
    have hsf : Digs suf := fun d hd => hs d (by simp [hd])
    have hk : 0 + Int.toNat (pre.length : Int) * 1 = pre.length := by omega
    simp only [List.length_cons] at hn
    by_cases hneg : 0 - s - b < 0
    · have h := LS.of ok1 (readC_0 b pre.length n (pre ++ s :: suf)) (by
        simp only [hk, getD_mid, set_mid]
        exact (by (repeat' (first | exact AllC.nil | refine AllC.cons ?_ ?_)); all_goals (first | exact viaL_ok | ((with_reducible refine inR64.2 ?_); omega) | (with_reducible refine pFl ?_ ?_ <;> omega) | ((with_reducible refine decide_eq_true ?_); omega) | ((with_reducible refine decide_eq_false ?_); omega) | omega | (simp [hneg, hn] <;> omega) | assumption | rfl)))
      simp only [hk, getD_mid, set_mid] at h
      have e : pre ++ (0 - s - b + 100000000) :: suf = (pre ++ [0 - s - b + 100000000]) ++ suf := by simp
      have e2 : (pre.length : Int) + 1 = ((pre ++ [0 - s - b + 100000000]).length : Nat) := by simp
      rw [e, e2] at h
      obtain ⟨pre', b', k1, k2, k3, k4, k5⟩ := readC suf (pre ++ [0 - s - b + 100000000]) 1 n (.inr rfl) (by
        intro d hd
        rcases List.mem_append.1 hd with h | h
        · exact hp d h
        · simp at h; subst h; omega) hsf (by simp; omega) hl
      refine ⟨pre', b', k1, k2, k3, ?_, Loops.go h k5⟩
      rw [k4, vl_snoc, List.length_append, List.length_singleton, Int.pow_succ]
      simp only [vl]
      have e3 : (b + (s + 100000000 * vl suf)) = -(0 - s - b + 100000000) + 100000000 * (1 + vl suf) := by omega
      rw [e3]
      exact alg2 _ _ _ _
    · have hz : 0 - s - b = 0 := by omega
      have h := LS.of ok1 (readC_1 b pre.length n (pre ++ s :: suf)) (by
        simp only [hk, getD_mid, set_mid]
        exact (by (repeat' (first | exact AllC.nil | refine AllC.cons ?_ ?_)); all_goals (first | exact viaL_ok | ((with_reducible refine inR64.2 ?_); omega) | (with_reducible refine pFl ?_ ?_ <;> omega) | ((with_reducible refine decide_eq_true ?_); omega) | ((with_reducible refine decide_eq_false ?_); omega) | omega | (simp [hneg, hn] <;> omega) | assumption | rfl)))
      simp only [hk, getD_mid, set_mid] at h
      have e : pre ++ (0 - s - b) :: suf = (pre ++ [0 - s - b]) ++ suf := by simp
      have e2 : (pre.length : Int) + 1 = ((pre ++ [0 - s - b]).length : Nat) := by simp
      rw [e, e2] at h
      obtain ⟨pre', b', k1, k2, k3, k4, k5⟩ := readC suf (pre ++ [0 - s - b]) 0 n (.inl rfl) (by
        intro d hd
        rcases List.mem_append.1 hd with h | h
        · exact hp d h
        · simp at h; subst h; omega) hsf (by simp; omega) hl
      refine ⟨pre', b', k1, k2, k3, ?_, Loops.go h k5⟩
      rw [k4, vl_snoc, List.length_append, List.length_singleton, Int.pow_succ]
      simp only [vl]
      have e3 : (b + (s + 100000000 * vl suf)) = -(0 - s - b) + 100000000 * (0 + vl suf) := by omega
      rw [e3]
      exact alg2 _ _ _ _

theorem take_all (l : List Int) : l.take l.length = l := List.take_length

instance decRead {x : List Int} : Decidable (pRead x) := inferInstanceAs (Decidable (_ ∧ _))
theorem read_fc (x : List Int) (h : pRead x) : FC Tryz.prog 124 [.sq x] (W (vl x)) := by
  have hx1 := h.1
  -- the first loop
  have main : (∃ (i : Int) (out : List Int), Digs out ∧ vl out = vl x ∧ out.length ≤ 2199023255552 ∧ Loops 1 Tryz.prog (lpOf Tryz.prog 124 0) (SN x) (.exit 0, SR x i 0 out.length out)) ∨
      (∃ (i : Int) (out : List Int), Digs out ∧ vl out - 100000000 ^ out.length = vl x ∧ out.length ≤ 2199023255552 ∧ Loops 1 Tryz.prog (lpOf Tryz.prog 124 0) (SN x) (.exit 0, SR x i (-1) out.length out)) ∨
      (x = [] ∧ Loops 1 Tryz.prog (lpOf Tryz.prog 124 0) (SN x) (.exit 0, SN x)) := by
    cases x with
    | nil =>
      refine .inr (.inr ⟨rfl, Loops.fin (LS.of ok1 (readE_2 []) (by (repeat' (first | exact AllC.nil | refine AllC.cons ?_ ?_)); all_goals (first | exact viaL_ok | ((with_reducible refine inR64.2 ?_); omega) | (with_reducible refine pFl ?_ ?_ <;> omega) | ((with_reducible refine decide_eq_true ?_); omega) | ((with_reducible refine decide_eq_false ?_); omega) | omega | (simp [] <;> omega) | assumption | rfl))) (by simp [Ex.toExit])⟩)
    | cons d x =>
      have hb := h.2 d (by simp)
      have hb' := hb
      unfold pFloored at hb'
      have hlt : 0 < (d :: x).length := by simp
      have hg : (d :: x).getD 0 0 = d := rfl
      have hg2 : (d :: x).getD (Int.toNat 0) 0 = d := rfl
      have hstep := LS.of ok1 (readN_0 (d :: x)) (by
        rw [hg]
        exact (by (repeat' (first | exact AllC.nil | refine AllC.cons ?_ ?_)); all_goals (first | exact viaL_ok | ((with_reducible refine inR64.2 ?_); omega) | (with_reducible refine pFl ?_ ?_ <;> omega) | ((with_reducible refine decide_eq_true ?_); omega) | ((with_reducible refine decide_eq_false ?_); omega) | omega | (simp [pFloored] <;> omega) | assumption | rfl)))
      rw [hg] at hstep
      have hd2 : Digs [(d % 100000000 + 0) % 100000000] := by
        intro y hy
        simp at hy; subst hy; omega
      obtain ⟨i', c', out', k1, k2, k3, k4, k5⟩ := readB x.length (d :: x) (d / 100000000 + (d % 100000000 + 0) / 100000000) [(d % 100000000 + 0) % 100000000] h (by simp; omega) hd2 (by omega) (by omega)
      have hv : vl out' + 100000000 ^ out'.length * c' = vl (d :: x) := by
        rw [k3]
        simp only [vl, List.length_singleton, List.drop_succ_cons, List.drop_zero, Int.pow_succ, Int.pow_zero]
        omega
      rcases k1 with rfl | rfl
      · exact .inl ⟨i', out', k2, by omega, k4, Loops.go hstep k5⟩
      · refine .inr (.inl ⟨i', out', k2, ?_, k4, Loops.go hstep k5⟩)
        rw [← hv, Int.mul_neg, Int.mul_one]; omega
  rcases main with ⟨i, out, hd, hv, hl, hL⟩ | ⟨i, out, hd, hv, hl, hL⟩ | ⟨rfl, hL⟩
  · have := fc_fun ok1 (readF_0 x i out out.length) (.cons viaL_ok (.cons rfl (.cons hL (.cons rfl (.cons (Nat.le_refl _) (.cons (by rw [take_all]; unfold short64; omega) .nil))))))
    rw [take_all] at this
    have h0 : 0 ≤ vl x := by rw [← hv]; exact vl_nonneg hd
    refine this.res fun E v hr => hr.toW (b := false) rfl rfl (by simp; omega) ?_
    rw [trm_digs hd, hv]
    congr 1
    omega
  · obtain ⟨out2, b', k1, k2, k3, k4, k5⟩ := readC out [] 0 out.length (.inl rfl) (fun d hd => by cases hd) hd (by simp) (by omega)
    simp only [vl, List.length_nil, Int.pow_zero, Int.zero_add, Int.one_mul, List.nil_append] at k4 k5
    have hlt := vl_lt hd
    have hneg : vl x < 0 := by omega
    have hL2 : Loops 2 Tryz.prog (lpOf Tryz.prog 124 1) (SC 0 0 out.length out) (.exit 2, SC b' (out.length : Int) out.length out2) := k5
    have ht : List.take out.length out2 = out2 := by rw [← k2, take_all]
    rcases k3 with rfl | rfl
    · -- all of them are 0
      have := fc_fun ok1 (readH_0 x i out out2 out.length 0 (out.length : Int)) (by
        have e : List.take (out.length + 1) (List.take out.length out2 ++ List.take 1 [1]) = out2 ++ [1] := by
          rw [ht, ← k2]; exact List.take_of_length_le (l := out2 ++ [1]) (by simp)
        refine .cons viaL_ok (.cons rfl (.cons hL (.cons rfl (.cons viaL_ok (.cons rfl (.cons hL2 ?_))))))
        rw [e, ht]
        exact (by (repeat' (first | exact AllC.nil | refine AllC.cons ?_ ?_)); all_goals (first | exact viaL_ok | ((with_reducible refine inR64.2 ?_); omega) | (with_reducible refine pFl ?_ ?_ <;> omega) | ((with_reducible refine decide_eq_true ?_); omega) | ((with_reducible refine decide_eq_false ?_); omega) | omega | (simp [k2, short64] <;> omega) | assumption | rfl)))
      have e : List.take (out.length + 1) (List.take out.length out2 ++ List.take 1 [1]) = out2 ++ [1] := by
        rw [ht, ← k2]; exact List.take_of_length_le (l := out2 ++ [1]) (by simp)
      rw [e, trm_last out2 1 (by decide)] at this
      refine this.res fun E v hr => hr.toW (b := true) rfl rfl (by simp; omega) ?_
      have hdd : Digs (out2 ++ [1]) := by
        intro d hd'
        rcases List.mem_append.1 hd' with h | h
        · exact k1 d h
        · simp at h; subst h; omega
      have hval : vl (out2 ++ [1]) = - vl x := by rw [vl_snoc, k2]; omega
      rw [← digs_vl hdd (trm_last out2 1 (by decide)), hval]
      congr 1
      omega
    · have := fc_fun ok1 (readH_1 x i out out2 out.length 1 (out.length : Int)) (by
        refine .cons viaL_ok (.cons rfl (.cons hL (.cons rfl (.cons viaL_ok (.cons rfl (.cons hL2 ?_))))))
        rw [ht]
        exact (by (repeat' (first | exact AllC.nil | refine AllC.cons ?_ ?_)); all_goals (first | exact viaL_ok | ((with_reducible refine inR64.2 ?_); omega) | (with_reducible refine pFl ?_ ?_ <;> omega) | ((with_reducible refine decide_eq_true ?_); omega) | ((with_reducible refine decide_eq_false ?_); omega) | omega | (simp [k2, short64] <;> omega) | assumption | rfl)))
      rw [ht] at this
      refine this.res fun E v hr => hr.toW (b := true) rfl rfl (by simp; omega) ?_
      rw [trm_digs k1]
      have hval : vl out2 = - vl x := by omega
      rw [hval]
      congr 1
      omega
  · have := fc_fun ok1 (readG_0 []) (.cons viaL_ok (.cons rfl (.cons hL (.cons rfl (.cons (by unfold short64; decide) .nil)))))
    exact this.res fun E v hr => hr.toW (b := false) rfl rfl (by simp [vl]) (by simp [vl, digs_zero])

def ctr2 : Ctr := (124, cL pRead (fun x => W (vl x))) :: ctr1
theorem ctr2_all : ∀ p ∈ ctr2, CtrOK Tryz.prog p.1 p.2 := CAll.cons (cL_ok read_fc) ctr1_all
theorem ok2 : (mkCfg Tryz.prog ctr2 bw).OK := cfg_ok ctr2_all

end Go.Proofs.YtloaeinogiplbaaGreatDoor
end

section
open Go Go.Ev
namespace Go.Proofs.YtloaeinogiplbaaGreatDoor
open Go.Proofs
abbrev SLs (nb : Bool) (z : Int) (n : Nat) (k : Int) (l : List Int) : St := ⟨sp 28 [(3, .own 2 0 n 1), (10, .own 2 0 n 1), (11, .lit (.int .i64 (n : Int))), (12, .lit (.int .i64 k))], [.flat [.lit (.bool nb), .wd z] true, .dead, .ints l true], [0, 1, 2]⟩
end Go.Proofs.YtloaeinogiplbaaGreatDoor
end

section
open Go Go.Ev Go.RowKit
namespace Go.Proofs.YtloaeinogiplbaaGreatDoor
open Go.Proofs
set_option maxRecDepth 100000
set_option maxHeartbeats 1000000
set_option linter.unusedVariables false
set_option linter.unusedSimpArgs false


theorem listL_0 (nb : Bool) (z : Int) (n : Nat) (k : Int) (l : List Int) : rndA (mkCfg Tryz.prog ctr2 bw) 60 (lpOf Tryz.prog 100 0) 3 [] [3, 10, 11, 12] [0, 1, 2] (SLs nb z n k l) [true] [] = some (Ex.normal, ⟨sp 28 [(3, AV.own 2 0 n 1), (10, AV.own 2 0 n 1), (11, aI (↑n : Int)), (12, aI (k + 1))], [Row.flat [AV.lit (Value.bool nb), AV.wd z] true, Row.dead, Row.ints (List.set l (0 + Int.toNat k * 1) (0 - List.getD l (0 + Int.toNat k * 1) 0)) true], [0, 1, 2]⟩, [decide (k < (↑n : Int)) = true, decide (0 ≤ k) = true, decide (k < (↑n : Int)) = true, decide (0 + Int.toNat k * 1 < List.length l) = true, inR IntKind.i64 (0 - List.getD l (0 + Int.toNat k * 1) 0) = true, decide (0 ≤ k) = true, decide (k < (↑n : Int)) = true, decide (0 + Int.toNat k * 1 < List.length l) = true, inR IntKind.i64 (k + 1) = true]) := by kernel_rfl
theorem listL_1 (nb : Bool) (z : Int) (n : Nat) (k : Int) (l : List Int) : rndA (mkCfg Tryz.prog ctr2 bw) 60 (lpOf Tryz.prog 100 0) 3 [] [3, 10, 11, 12] [0, 1, 2] (SLs nb z n k l) [false] [] = some (Ex.exit 0, ⟨sp 28 [(3, AV.own 2 0 n 1), (10, AV.own 2 0 n 1), (11, aI (↑n : Int)), (12, aI k)], [Row.flat [AV.lit (Value.bool nb), AV.wd z] true, Row.dead, Row.ints l true], [0, 1, 2]⟩, [decide (k < (↑n : Int)) = false]) := by kernel_rfl
abbrev list_1_s0 (nb : Bool) (z : Int) : St := ⟨sp 28 [(3, AV.own 2 0 (List.length (digs (Int.natAbs z))) 1), (10, AV.own 2 0 (List.length (digs (Int.natAbs z))) 1), (11, aI (↑(List.length (digs (Int.natAbs z))) : Int)), (12, aI 0)], [Row.flat [AV.lit (Value.bool nb), AV.wd z] true, Row.dead, Row.ints (digs (Int.natAbs z)) true], [0, 1, 2]⟩
abbrev list_1_s1 (nb : Bool) (z : Int) (l2 : List Int) (k : Int) : St := ⟨sp 28 [(3, AV.own 2 0 (List.length (digs (Int.natAbs z))) 1), (10, AV.own 2 0 (List.length (digs (Int.natAbs z))) 1), (11, aI (↑(List.length (digs (Int.natAbs z))) : Int)), (12, aI k)], [Row.flat [AV.lit (Value.bool nb), AV.wd z] true, Row.dead, Row.ints l2 true], [0, 1, 2]⟩
theorem list_1 (nb : Bool) (z : Int) (l2 : List Int) (k : Int) : funA (mkCfg Tryz.prog ctr2 bw) 60 100 [.agg [.lit (.bool nb), .wd z]] [true, false] [some (viaL Tryz.prog (lpOf Tryz.prog 100 0) [] [3,10,11,12] [0,1,2] (SLs nb z (digs z.natAbs).length 0 (digs z.natAbs)) (.exit 0, SLs nb z (digs z.natAbs).length k l2))] = some (AV.sq (List.take (List.length (digs (Int.natAbs z))) l2), [(!List.isEmpty (digs (Int.natAbs z))) = true, decide ((0 + List.length (digs (Int.natAbs z))) * 8 ≤ 140737488355328) = true, decide (0 + List.length (digs (Int.natAbs z)) ≤ 4611686018427387904) = true, true = true, decide (List.length (digs (Int.natAbs z)) = List.length (digs (Int.natAbs z))) = true, nb = true, LoopOK Tryz.prog (lpOf Tryz.prog 100 0) (viaL Tryz.prog (lpOf Tryz.prog 100 0) [] [3, 10, 11, 12] [0, 1, 2] (list_1_s0 nb z) (Ex.exit 0, (list_1_s1 nb z l2 k))), (⟨sp 28 [(3, AV.own 2 0 (0 + List.length (digs (Int.natAbs z))) 1), (10, AV.own 2 0 (0 + List.length (digs (Int.natAbs z))) 1), (11, aI (↑(0 + List.length (digs (Int.natAbs z))) : Int)), (12, aI 0)], [Row.flat [AV.lit (Value.bool nb), AV.wd z] true, Row.dead, Row.ints (List.take 0 [] ++ digs (Int.natAbs z)) true], [0, 1, 2]⟩ : St) = (list_1_s0 nb z), Loops 3 Tryz.prog (lpOf Tryz.prog 100 0) (list_1_s0 nb z) (Ex.exit 0, (list_1_s1 nb z l2 k)), ((↑(List.length (digs (Int.natAbs z))) : Int) == 0) = false, List.length (digs (Int.natAbs z)) ≤ List.length l2]) := by kernel_rfl
theorem listF_1 (z : Int) : funA (mkCfg Tryz.prog ctr2 bw) 60 100 [.agg [.lit (.bool false), .wd z]] [false, false] [] = some (AV.sq (List.take (0 + List.length (digs (Int.natAbs z))) (List.take 0 [] ++ digs (Int.natAbs z))), [(!List.isEmpty (digs (Int.natAbs z))) = true, decide ((0 + List.length (digs (Int.natAbs z))) * 8 ≤ 140737488355328) = true, decide (0 + List.length (digs (Int.natAbs z)) ≤ 4611686018427387904) = true, true = true, decide (List.length (digs (Int.natAbs z)) = List.length (digs (Int.natAbs z))) = true, false = false, ((↑(0 + List.length (digs (Int.natAbs z))) : Int) == 0) = false, 0 + List.length (digs (Int.natAbs z)) ≤ List.length (List.take 0 [] ++ digs (Int.natAbs z))]) := by kernel_rfl
theorem listZ_0 (a : Addr) (c : Nat) : funA (mkCfg Tryz.prog ctr2 bw) 60 100 [.lit (.agg #[.bool false, .slice (some a) 0 c])] [false, true] [] = some (aN, [true = true, true = true, true = true, true = true, false = false, true = true]) := by kernel_rfl
theorem listY_0 (c : Nat) : funA (mkCfg Tryz.prog ctr2 bw) 60 100 [.lit (.agg #[.bool false, .slice none 0 c])] [false, true] [] = some (aN, [false = false, true = true]) := by kernel_rfl
theorem small_0 (n : Int) : funA (mkCfg Tryz.prog ctr2 bw) 60 98 [.lit (.int .i64 n)] [] [] = some (AV.agg [AV.lit (Value.bool (decide (vl (List.take 1 [n]) < 0))), AV.wd (vl (List.take 1 [n]))], [1 ≤ List.length [n], pRead (List.take 1 [n])]) := by kernel_rfl
theorem sign_0 (nb : Bool) (z : Int) : funA (mkCfg Tryz.prog ctr2 bw) 60 132 [.agg [.lit (.bool nb), .wd z]] [true] [] = some (aI 0, [((↑(List.length (digs (Int.natAbs z))) : Int) == 0) = true]) := by kernel_rfl
theorem sign_1 (nb : Bool) (z : Int) : funA (mkCfg Tryz.prog ctr2 bw) 60 132 [.agg [.lit (.bool nb), .wd z]] [false, true] [] = some (aI (-1), [((↑(List.length (digs (Int.natAbs z))) : Int) == 0) = false, nb = true]) := by kernel_rfl
theorem sign_2 (nb : Bool) (z : Int) : funA (mkCfg Tryz.prog ctr2 bw) 60 132 [.agg [.lit (.bool nb), .wd z]] [false, false] [] = some (aI 1, [((↑(List.length (digs (Int.natAbs z))) : Int) == 0) = false, nb = false]) := by kernel_rfl
theorem minus_0 (nb : Bool) (z : Int) : funA (mkCfg Tryz.prog ctr2 bw) 60 109 [.agg [.lit (.bool nb), .wd z]] [true] [] = some (AV.agg [AV.lit (Value.bool (decide ((↑(List.length (digs (Int.natAbs z))) : Int) > 0))), AV.wd z], [(!nb) = true]) := by kernel_rfl
theorem minus_1 (nb : Bool) (z : Int) : funA (mkCfg Tryz.prog ctr2 bw) 60 109 [.agg [.lit (.bool nb), .wd z]] [false] [] = some (AV.agg [AV.ff, AV.wd z], [(!nb) = false]) := by kernel_rfl
theorem cmpi_3 (a b : Int) : funA (mkCfg Tryz.prog ctr2 bw) 60 189 [.lit (.int .i64 a), .lit (.int .i64 b)] [false, false, true] [] = some (aI (-1), [(a != a) = false, (b != b) = false, decide (a < b) = true]) := by kernel_rfl
theorem cmpi_4 (a b : Int) : funA (mkCfg Tryz.prog ctr2 bw) 60 189 [.lit (.int .i64 a), .lit (.int .i64 b)] [false, false, false, true] [] = some (aI 1, [(a != a) = false, (b != b) = false, decide (a < b) = false, decide (a > b) = true]) := by kernel_rfl
theorem cmpi_5 (a b : Int) : funA (mkCfg Tryz.prog ctr2 bw) 60 189 [.lit (.int .i64 a), .lit (.int .i64 b)] [false, false, false, false] [] = some (aI 0, [(a != a) = false, (b != b) = false, decide (a < b) = false, decide (a > b) = false]) := by kernel_rfl
theorem negL : ∀ (suf pre : List Int) (n : Nat) (nb : Bool) (z : Int), n = pre.length + suf.length → n ≤ 4611686018427387904 → (∀ d ∈ suf, 0 ≤ d ∧ d < 100000000) →
    Loops 3 Tryz.prog (lpOf Tryz.prog 100 0) (SLs nb z n pre.length (pre ++ suf)) (.exit 0, SLs nb z n n (pre ++ suf.map fun d => -d))
  | [], pre, n, nb, z, hn, hl, hs => by
    simp only [List.length_nil, Nat.add_zero] at hn
    subst hn
    rw [List.append_nil, List.map_nil, List.append_nil]
    exact Loops.fin (LS.of ok2 (listL_1 nb z pre.length pre.length pre) (by (repeat' (first | exact AllC.nil | refine AllC.cons ?_ ?_)); all_goals (first | exact viaL_ok | ((with_reducible refine inR64.2 ?_); omega) | (with_reducible refine pFl ?_ ?_ <;> omega) | ((with_reducible refine decide_eq_true ?_); omega) | ((with_reducible refine decide_eq_false ?_); omega) | omega | (simp [] <;> omega) | assumption | rfl))) (by simp [Ex.toExit])
  | s :: suf, pre, n, nb, z, hn, hl, hs => by
    have hs0 := hs s (by simp)
    have hk : 0 + Int.toNat (pre.length : Int) * 1 = pre.length := by omega
    simp only [List.length_cons] at hn
    have h := LS.of ok2 (listL_0 nb z n pre.length (pre ++ s :: suf)) (by
      simp only [hk, getD_mid, set_mid]
      exact (by (repeat' (first | exact AllC.nil | refine AllC.cons ?_ ?_)); all_goals (first | exact viaL_ok | ((with_reducible refine inR64.2 ?_); omega) | (with_reducible refine pFl ?_ ?_ <;> omega) | ((with_reducible refine decide_eq_true ?_); omega) | ((with_reducible refine decide_eq_false ?_); omega) | omega | (simp [hn] <;> omega) | assumption | rfl)))
    simp only [hk, getD_mid, set_mid] at h
    have e : pre ++ (0 - s) :: suf = (pre ++ [-s]) ++ suf := by simp
    have e2 : (pre.length : Int) + 1 = ((pre ++ [-s]).length : Nat) := by simp
    rw [e, e2] at h
    have := negL suf (pre ++ [-s]) n nb z (by simp; omega) hl (fun d hd => hs d (by simp [hd]))
    have e3 : pre ++ (s :: suf).map (fun d => -d) = (pre ++ [-s]) ++ suf.map (fun d => -d) := by simp
    rw [e3]
    exact Loops.go h this

theorem dl_pos {z : Int} (h : z ≠ 0) : 0 < (digs z.natAbs).length := by
  rcases Nat.eq_zero_or_pos (digs z.natAbs).length with h0 | h0
  · have := (digs_nil z.natAbs).1 (List.eq_nil_of_length_eq_zero h0)
    omega
  · exact h0

theorem digs_ne {z : Int} (hz : z ≠ 0) : digs z.natAbs ≠ [] := by
  have hp := dl_pos hz
  intro h; rw [h] at hp; simp at hp

theorem list_fc (z : Int) (h : fits z) : FC Tryz.prog 100 [W z] (.ni z) := by
  unfold fits dl at h
  by_cases hz : z = 0
  · subst hz
    refine FC.cases1 fun E v hv => ?_
    cases hv with
    | @agg _ vs hl hr =>
      obtain ⟨v0, v1, rfl⟩ : ∃ v0 v1, vs = #[v0, v1] := by
        obtain ⟨l⟩ := vs
        match l, hl with
        | [a, b], _ => exact ⟨a, b, rfl⟩
      have h0 : v0 = .bool false := (hr 0 (by simp)).lit_inv
      have h1 : Rd E (.wd 0) v1 := hr 1 (by simp)
      obtain ⟨a, cap, h2, _, _⟩ := ints_inv (l := []) rfl h1
      subst h0; subst h2
      refine ⟨.lit (.agg #[.bool false, .slice a 0 cap]), .lit _, fun _ => .lit _, ?_⟩
      have toni : ∀ (E : Env) (v : Value), Rd E (.lit (.slice none 0 0)) v → Rd E (.ni 0) v := fun E v h => h.toNi (l := []) rfl rfl
      cases a with
      | none => exact (fc_fun ok2 (listY_0 cap) (by (repeat' (first | exact AllC.nil | refine AllC.cons ?_ ?_)); all_goals (first | exact viaL_ok | ((with_reducible refine inR64.2 ?_); omega) | (with_reducible refine pFl ?_ ?_ <;> omega) | ((with_reducible refine decide_eq_true ?_); omega) | ((with_reducible refine decide_eq_false ?_); omega) | omega | (simp [] <;> omega) | assumption | rfl))).res toni
      | some a => exact (fc_fun ok2 (listZ_0 a cap) (by (repeat' (first | exact AllC.nil | refine AllC.cons ?_ ?_)); all_goals (first | exact viaL_ok | ((with_reducible refine inR64.2 ?_); omega) | (with_reducible refine pFl ?_ ?_ <;> omega) | ((with_reducible refine decide_eq_true ?_); omega) | ((with_reducible refine decide_eq_false ?_); omega) | omega | (simp [] <;> omega) | assumption | rfl))).res toni
  · have hp := dl_pos hz
    have hne : digs z.natAbs ≠ [] := by intro h; rw [h] at hp; simp at hp
    have hsq : ∀ {l : List Int}, l = nform z → ∀ (E : Env) (v : Value), Rd E (.sq l) v → Rd E (.ni z) v := fun hl E v h => h.toNi rfl hl
    by_cases hneg : z < 0
    · have hL := negL (digs z.natAbs) [] (digs z.natAbs).length true z (by simp) (by omega) (Digs_digs _)
      rw [List.nil_append, List.nil_append] at hL
      have hL2 : Loops 3 Tryz.prog (lpOf Tryz.prog 100 0) (SLs true z (digs z.natAbs).length 0 (digs z.natAbs)) (.exit 0, SLs true z (digs z.natAbs).length ((digs z.natAbs).length : Int) ((digs z.natAbs).map fun d => -d)) := hL
      have := fc_fun ok2 (list_1 true z ((digs z.natAbs).map fun d => -d) ((digs z.natAbs).length : Int)) (by
        simp only [Nat.zero_add]
        exact (by (repeat' (first | exact AllC.nil | refine AllC.cons ?_ ?_)); all_goals (first | exact viaL_ok | ((with_reducible refine inR64.2 ?_); omega) | (with_reducible refine pFl ?_ ?_ <;> omega) | ((with_reducible refine decide_eq_true ?_); omega) | ((with_reducible refine decide_eq_false ?_); omega) | omega | (simp [hne] <;> omega) | assumption | rfl)))
      have e : W z = .agg [.lit (.bool true), .wd z] := by unfold W; simp [hneg]
      rw [e]
      refine this.res (hsq ?_)
      rw [show List.take (digs z.natAbs).length ((digs z.natAbs).map fun d => -d) = (digs z.natAbs).map fun d => -d from by rw [← List.length_map (f := fun d : Int => -d)]; exact List.take_length]
      unfold nform
      rw [if_pos hneg]
    · have := fc_fun ok2 (listF_1 z) (by (repeat' (first | exact AllC.nil | refine AllC.cons ?_ ?_)); all_goals (first | exact viaL_ok | ((with_reducible refine inR64.2 ?_); omega) | (with_reducible refine pFl ?_ ?_ <;> omega) | ((with_reducible refine decide_eq_true ?_); omega) | ((with_reducible refine decide_eq_false ?_); omega) | omega | (simp [hne] <;> omega) | assumption | rfl))
      have e : W z = .agg [.lit (.bool false), .wd z] := by unfold W; simp [hneg]
      rw [e]
      refine this.res (hsq ?_)
      unfold nform
      rw [if_neg hneg]
      simp

theorem small_fc (n : Int) (h : pFloored n) : FC Tryz.prog 98 [.lit (.int .i64 n)] (W n) := by
  have := fc_fun ok2 (small_0 n) (.cons (by simp) (.cons ⟨by simp, fun d hd => by simp at hd; subst hd; exact h⟩ .nil))
  have e : vl (List.take 1 [n]) = n := Int.add_zero n
  rw [e] at this
  exact this
theorem sign_fc (z : Int) : FC Tryz.prog 132 [W z] (.lit (.int .i64 z.sign)) := by
  by_cases hz : z = 0
  · subst hz
    exact fc_fun ok2 (sign_0 _ 0) (.cons (by simp [digs_zero]) .nil)
  · have hne := digs_ne hz
    by_cases hneg : z < 0
    · have := fc_fun ok2 (sign_1 (decide (z < 0)) z) (.cons (by simp [hne]) (.cons (by simpa using hneg) .nil))
      rw [Int.sign_eq_neg_one_of_neg hneg]; exact this
    · have := fc_fun ok2 (sign_2 (decide (z < 0)) z) (.cons (by simp [hne]) (.cons (by simpa using hneg) .nil))
      rw [Int.sign_eq_one_of_pos (by omega)]; exact this
theorem minus_fc (z : Int) : FC Tryz.prog 109 [W z] (W (-z)) := by
  by_cases hneg : z < 0
  · have := fc_fun ok2 (minus_1 (decide (z < 0)) z) (.cons (by simpa using hneg) .nil)
    exact this.res fun E v h => h.toW (l := digs z.natAbs) rfl rfl (by simp; omega) (by rw [Int.natAbs_neg])
  · have := fc_fun ok2 (minus_0 (decide (z < 0)) z) (.cons (by simpa using hneg) .nil)
    refine this.res fun E v h => h.toW (l := digs z.natAbs) rfl rfl ?_ (by rw [Int.natAbs_neg])
    by_cases hz : z = 0
    · subst hz; simp [digs_zero]
    · have hp := dl_pos hz
      rw [decide_eq_decide]
      omega
def cmpI (a b : Int) : Int := if a < b then -1 else if b < a then 1 else 0
theorem cmpi_fc (a b : Int) : FC Tryz.prog 189 [.lit (.int .i64 a), .lit (.int .i64 b)] (.lit (.int .i64 (cmpI a b))) := by
  unfold cmpI
  by_cases h1 : a < b
  · rw [if_pos h1]
    exact fc_fun ok2 (cmpi_3 a b) (.cons (by simp) (.cons (by simp) (.cons (by simpa using h1) .nil)))
  · by_cases h2 : b < a
    · rw [if_neg h1, if_pos h2]
      exact fc_fun ok2 (cmpi_4 a b) (.cons (by simp) (.cons (by simp) (.cons (by simpa using h1) (.cons (by simpa using h2) .nil))))
    · rw [if_neg h1, if_neg h2]
      exact fc_fun ok2 (cmpi_5 a b) (.cons (by simp) (.cons (by simp) (.cons (by simpa using h1) (.cons (by simpa using h2) .nil))))

def ctr3 : Ctr := (100, c1 fits .ni) :: (98, cI pFloored W) :: (132, c1 (fun _ => True) (fun z => .lit (.int .i64 z.sign))) :: (109, c1 (fun _ => True) (fun z => W (-z))) ::
  (189, cII (fun _ _ => True) (fun a b => .lit (.int .i64 (cmpI a b)))) :: ctr2
theorem ctr3_all : ∀ p ∈ ctr3, CtrOK Tryz.prog p.1 p.2 := CAll.cons (c1_ok list_fc) <| CAll.cons (cI_ok small_fc) <| CAll.cons (c1_ok fun z _ => sign_fc z) <| CAll.cons (c1_ok fun z _ => minus_fc z) <|
  CAll.cons (cII_ok fun a b _ => cmpi_fc a b) ctr2_all
theorem ok3 : (mkCfg Tryz.prog ctr3 bw).OK := cfg_ok ctr3_all

end Go.Proofs.YtloaeinogiplbaaGreatDoor
end

section
open Go Go.Ev Go.RowKit
namespace Go.Proofs.YtloaeinogiplbaaGreatDoor
open Go.Proofs
set_option maxRecDepth 100000
set_option maxHeartbeats 1000000
set_option linter.unusedVariables false
set_option linter.unusedSimpArgs false


theorem sizesL_0 (a b i : Int) : rndA (mkCfg Tryz.prog ctr3 bw) 60 (lpOf Tryz.prog 151 0) 0 [] [0, 1, 4, 5] [] ⟨sp 41 [(0, .wd a), (1, .wd b), (4, .lit (.int .i64 0)), (5, .lit (.int .i64 i))], [], []⟩ [true, true] [] = some (Ex.ret, ⟨sp 41 [(0, AV.wd a), (1, AV.wd b), (4, aI (cmpI (List.getD (digs (Int.natAbs a)) (Int.toNat i) 0) (List.getD (digs (Int.natAbs b)) (Int.toNat i) 0))), (5, aI i)], [], []⟩, [decide (i ≥ 0) = true, decide (0 ≤ i) = true, decide (i < (↑(List.length (digs (Int.natAbs a))) : Int)) = true, decide (Int.toNat i < List.length (digs (Int.natAbs a))) = true, decide (0 ≤ i) = true, decide (i < (↑(List.length (digs (Int.natAbs b))) : Int)) = true, decide (Int.toNat i < List.length (digs (Int.natAbs b))) = true, (List.getD (digs (Int.natAbs a)) (Int.toNat i) 0 != List.getD (digs (Int.natAbs b)) (Int.toNat i) 0) = true, decide (0 ≤ i) = true, decide (i < (↑(List.length (digs (Int.natAbs a))) : Int)) = true, decide (Int.toNat i < List.length (digs (Int.natAbs a))) = true, decide (0 ≤ i) = true, decide (i < (↑(List.length (digs (Int.natAbs b))) : Int)) = true, decide (Int.toNat i < List.length (digs (Int.natAbs b))) = true, True]) := by kernel_rfl
theorem sizesL_1 (a b i : Int) : rndA (mkCfg Tryz.prog ctr3 bw) 60 (lpOf Tryz.prog 151 0) 0 [] [0, 1, 4, 5] [] ⟨sp 41 [(0, .wd a), (1, .wd b), (4, .lit (.int .i64 0)), (5, .lit (.int .i64 i))], [], []⟩ [true, false] [] = some (Ex.normal, ⟨sp 41 [(0, AV.wd a), (1, AV.wd b), (4, aI 0), (5, aI (i - 1))], [], []⟩, [decide (i ≥ 0) = true, decide (0 ≤ i) = true, decide (i < (↑(List.length (digs (Int.natAbs a))) : Int)) = true, decide (Int.toNat i < List.length (digs (Int.natAbs a))) = true, decide (0 ≤ i) = true, decide (i < (↑(List.length (digs (Int.natAbs b))) : Int)) = true, decide (Int.toNat i < List.length (digs (Int.natAbs b))) = true, (List.getD (digs (Int.natAbs a)) (Int.toNat i) 0 != List.getD (digs (Int.natAbs b)) (Int.toNat i) 0) = false, inR IntKind.i64 (i - 1) = true]) := by kernel_rfl
theorem sizesL_2 (a b i : Int) : rndA (mkCfg Tryz.prog ctr3 bw) 60 (lpOf Tryz.prog 151 0) 0 [] [0, 1, 4, 5] [] ⟨sp 41 [(0, .wd a), (1, .wd b), (4, .lit (.int .i64 0)), (5, .lit (.int .i64 i))], [], []⟩ [false] [] = some (Ex.exit 0, ⟨sp 41 [(0, AV.wd a), (1, AV.wd b), (4, aI 0), (5, aI i)], [], []⟩, [decide (i ≥ 0) = false]) := by kernel_rfl
theorem sizes_1 (a b i c : Int) : funA (mkCfg Tryz.prog ctr3 bw) 60 151 [.wd a, .wd b] [false] [some (viaL Tryz.prog (lpOf Tryz.prog 151 0) [] [0,1,4,5] [] ⟨sp 41 [(0, .wd a), (1, .wd b), (4, .lit (.int .i64 0)), (5, .lit (.int .i64 (((digs b.natAbs).length : Int) - 1)))], [], []⟩ (.ret, ⟨sp 41 [(0, .wd a), (1, .wd b), (4, .lit (.int .i64 c)), (5, .lit (.int .i64 i))], [], []⟩))] = some (aI c, [((↑(List.length (digs (Int.natAbs a))) : Int) != (↑(List.length (digs (Int.natAbs b))) : Int)) = false, inR IntKind.i64 ((↑(List.length (digs (Int.natAbs a))) : Int) - 1) = true, LoopOK Tryz.prog (lpOf Tryz.prog 151 0) (viaL Tryz.prog (lpOf Tryz.prog 151 0) [] [0, 1, 4, 5] [] ⟨sp 41 [(0, AV.wd a), (1, AV.wd b), (4, aI 0), (5, aI ((↑(List.length (digs (Int.natAbs b))) : Int) - 1))], [], []⟩ (Ex.ret, ⟨sp 41 [(0, AV.wd a), (1, AV.wd b), (4, aI c), (5, aI i)], [], []⟩)), (⟨sp 41 [(0, AV.wd a), (1, AV.wd b), (4, aI 0), (5, aI ((↑(List.length (digs (Int.natAbs a))) : Int) - 1))], [], []⟩ : St) = ⟨sp 41 [(0, AV.wd a), (1, AV.wd b), (4, aI 0), (5, aI ((↑(List.length (digs (Int.natAbs b))) : Int) - 1))], [], []⟩, Loops 0 Tryz.prog (lpOf Tryz.prog 151 0) ⟨sp 41 [(0, AV.wd a), (1, AV.wd b), (4, aI 0), (5, aI ((↑(List.length (digs (Int.natAbs b))) : Int) - 1))], [], []⟩ (Ex.ret, ⟨sp 41 [(0, AV.wd a), (1, AV.wd b), (4, aI c), (5, aI i)], [], []⟩)]) := by kernel_rfl
theorem sizeE_1 (a b i : Int) : funA (mkCfg Tryz.prog ctr3 bw) 60 151 [.wd a, .wd b] [false] [some (viaL Tryz.prog (lpOf Tryz.prog 151 0) [] [0,1,4,5] [] ⟨sp 41 [(0, .wd a), (1, .wd b), (4, .lit (.int .i64 0)), (5, .lit (.int .i64 (((digs b.natAbs).length : Int) - 1)))], [], []⟩ (.exit 0, ⟨sp 41 [(0, .wd a), (1, .wd b), (4, .lit (.int .i64 0)), (5, .lit (.int .i64 i))], [], []⟩))] = some (aI 0, [((↑(List.length (digs (Int.natAbs a))) : Int) != (↑(List.length (digs (Int.natAbs b))) : Int)) = false, inR IntKind.i64 ((↑(List.length (digs (Int.natAbs a))) : Int) - 1) = true, LoopOK Tryz.prog (lpOf Tryz.prog 151 0) (viaL Tryz.prog (lpOf Tryz.prog 151 0) [] [0, 1, 4, 5] [] ⟨sp 41 [(0, AV.wd a), (1, AV.wd b), (4, aI 0), (5, aI ((↑(List.length (digs (Int.natAbs b))) : Int) - 1))], [], []⟩ (Ex.exit 0, ⟨sp 41 [(0, AV.wd a), (1, AV.wd b), (4, aI 0), (5, aI i)], [], []⟩)), (⟨sp 41 [(0, AV.wd a), (1, AV.wd b), (4, aI 0), (5, aI ((↑(List.length (digs (Int.natAbs a))) : Int) - 1))], [], []⟩ : St) = ⟨sp 41 [(0, AV.wd a), (1, AV.wd b), (4, aI 0), (5, aI ((↑(List.length (digs (Int.natAbs b))) : Int) - 1))], [], []⟩, Loops 0 Tryz.prog (lpOf Tryz.prog 151 0) ⟨sp 41 [(0, AV.wd a), (1, AV.wd b), (4, aI 0), (5, aI ((↑(List.length (digs (Int.natAbs b))) : Int) - 1))], [], []⟩ (Ex.exit 0, ⟨sp 41 [(0, AV.wd a), (1, AV.wd b), (4, aI 0), (5, aI i)], [], []⟩)]) := by kernel_rfl
theorem sizeN_0 (a b : Int) : funA (mkCfg Tryz.prog ctr3 bw) 60 151 [.wd a, .wd b] [true] [] = some (aI (cmpI (↑(List.length (digs (Int.natAbs a))) : Int) (↑(List.length (digs (Int.natAbs b))) : Int)), [((↑(List.length (digs (Int.natAbs a))) : Int) != (↑(List.length (digs (Int.natAbs b))) : Int)) = true, True]) := by kernel_rfl

theorem top_lt {a a' : List Int} (x y : Int) (d : List Int) (ha : Digs a) (ha' : Digs a') (hl : a.length = a'.length) (h : x < y) : vl (a ++ x :: d) < vl (a' ++ y :: d) := by
  have h1 := vl_lt ha
  have h2 := vl_nonneg ha'
  rw [vl_append, vl_append, ← hl]
  simp only [vl]
  have h3 : (100000000 : Int) ^ a.length * (x + 100000000 * vl d + 1) ≤ 100000000 ^ a.length * (y + 100000000 * vl d) := Int.mul_le_mul_of_nonneg_left (by omega) (pow_nn _)
  rw [Int.mul_add (100000000 ^ a.length) _ 1, Int.mul_one] at h3
  omega

theorem split_at (l : List Int) (k : Nat) (h : k < l.length) : l = l.take k ++ l.getD k 0 :: l.drop (k + 1) := by
  have e : l.getD k 0 = l[k] := by simp [List.getD, h]
  rw [e, ← List.drop_eq_getElem_cons h, List.take_append_drop]

theorem Digs_take {l : List Int} (h : Digs l) (k : Nat) : Digs (l.take k) := fun d hd => h d (List.mem_of_mem_take hd)
theorem Digs_drop {l : List Int} (h : Digs l) (k : Nat) : Digs (l.drop k) := fun d hd => h d (List.mem_of_mem_drop hd)

theorem sizes_loop (a b : Int) (hlen : (digs a.natAbs).length = (digs b.natAbs).length) (hf : (digs a.natAbs).length ≤ 1048576) : ∀ k : Nat, k ≤ (digs a.natAbs).length → (digs a.natAbs).drop k = (digs b.natAbs).drop k →
    (∃ i c, c = cmpI (a.natAbs : Int) (b.natAbs : Int) ∧ Loops 0 Tryz.prog (lpOf Tryz.prog 151 0) ⟨sp 41 [(0, .wd a), (1, .wd b), (4, .lit (.int .i64 0)), (5, .lit (.int .i64 ((k : Int) - 1)))], [], []⟩ (.ret, ⟨sp 41 [(0, .wd a), (1, .wd b), (4, .lit (.int .i64 c)), (5, .lit (.int .i64 i))], [], []⟩)) ∨
    (∃ i, a.natAbs = b.natAbs ∧ Loops 0 Tryz.prog (lpOf Tryz.prog 151 0) ⟨sp 41 [(0, .wd a), (1, .wd b), (4, .lit (.int .i64 0)), (5, .lit (.int .i64 ((k : Int) - 1)))], [], []⟩ (.exit 0, ⟨sp 41 [(0, .wd a), (1, .wd b), (4, .lit (.int .i64 0)), (5, .lit (.int .i64 i))], [], []⟩))
  | 0, hk, hd => by
    refine .inr ⟨_, ?_, Loops.fin (LS.of ok3 (sizesL_2 a b ((0 : Nat) - 1)) (by (repeat' (first | exact AllC.nil | refine AllC.cons ?_ ?_)); all_goals (first | exact viaL_ok | ((with_reducible refine inR64.2 ?_); omega) | (with_reducible refine pFl ?_ ?_ <;> omega) | ((with_reducible refine decide_eq_true ?_); omega) | ((with_reducible refine decide_eq_false ?_); omega) | omega | (simp [] <;> omega) | assumption | rfl))) (by simp [Ex.toExit])⟩
    rw [List.drop_zero, List.drop_zero] at hd
    have h1 := vl_digs a.natAbs
    rw [hd, vl_digs] at h1
    omega
  | k + 1, hk, hd => by
    have hnat : Int.toNat (((k + 1 : Nat) : Int) - 1) = k := by omega
    have hka : k < (digs a.natAbs).length := by omega
    have hkb : k < (digs b.natAbs).length := by omega
    by_cases hne : (digs a.natAbs).getD k 0 = (digs b.natAbs).getD k 0
    · have hx : ((digs a.natAbs).getD k 0 != (digs b.natAbs).getD k 0) = false := by rw [hne]; exact bne_self_eq_false (α := Int) _
      have h := LS.of ok3 (sizesL_1 a b (((k + 1 : Nat) : Int) - 1)) (by
        rw [hnat]
        exact (by (repeat' (first | exact AllC.nil | refine AllC.cons ?_ ?_)); all_goals (first | exact viaL_ok | ((with_reducible refine inR64.2 ?_); omega) | (with_reducible refine pFl ?_ ?_ <;> omega) | ((with_reducible refine decide_eq_true ?_); omega) | ((with_reducible refine decide_eq_false ?_); omega) | omega | (simp [hne, hka, hkb] <;> omega) | assumption | rfl)))
      have e : ((k + 1 : Nat) : Int) - 1 - 1 = (k : Int) - 1 := by omega
      rw [e] at h
      have hd2 : (digs a.natAbs).drop k = (digs b.natAbs).drop k := by
        rw [List.drop_eq_getElem_cons hka, List.drop_eq_getElem_cons hkb, hd]
        congr 1
        simpa [List.getD, hka, hkb] using hne
      rcases sizes_loop a b hlen hf k (by omega) hd2 with ⟨i, c, h1, h2⟩ | ⟨i, h1, h2⟩
      · exact .inl ⟨i, c, h1, Loops.go h h2⟩
      · exact .inr ⟨i, h1, Loops.go h h2⟩
    · have hx : ((digs a.natAbs).getD k 0 != (digs b.natAbs).getD k 0) = true := bne_iff_ne.2 hne
      have h := LS.of ok3 (sizesL_0 a b (((k + 1 : Nat) : Int) - 1)) (by
        rw [hnat]
        exact (by (repeat' (first | exact AllC.nil | refine AllC.cons ?_ ?_)); all_goals (first | exact viaL_ok | ((with_reducible refine inR64.2 ?_); omega) | (with_reducible refine pFl ?_ ?_ <;> omega) | ((with_reducible refine decide_eq_true ?_); omega) | ((with_reducible refine decide_eq_false ?_); omega) | omega | (simp [hne, hka, hkb] <;> omega) | assumption | rfl)))
      rw [hnat] at h
      refine .inl ⟨_, _, ?_, Loops.fin h (by simp [Ex.toExit])⟩
      have va := vl_digs a.natAbs
      have vb := vl_digs b.natAbs
      rw [split_at _ k hka] at va
      rw [split_at _ k hkb, ← hd] at vb
      have hll : ((digs a.natAbs).take k).length = ((digs b.natAbs).take k).length := by simp; omega
      unfold cmpI
      by_cases hlt : (digs a.natAbs).getD k 0 < (digs b.natAbs).getD k 0
      · have := top_lt _ _ ((digs a.natAbs).drop (k + 1)) (Digs_take (Digs_digs a.natAbs) k) (Digs_take (Digs_digs b.natAbs) k) hll hlt
        rw [if_pos hlt, if_pos (by omega)]
      · have := top_lt _ _ ((digs a.natAbs).drop (k + 1)) (Digs_take (Digs_digs b.natAbs) k) (Digs_take (Digs_digs a.natAbs) k) hll.symm (show (digs b.natAbs).getD k 0 < (digs a.natAbs).getD k 0 by omega)
        rw [if_neg hlt, if_pos (by omega), if_neg (by omega), if_pos (by omega)]

/-- The one that's longer is greater. -/
theorem lt_of_len {m n : Nat} (h : (digs m).length < (digs n).length) : m < n := by
  have h1 := digs_lt m
  rcases Nat.lt_or_ge m n with h2 | h2
  · exact h2
  · exfalso
    have := digs_length n (digs m).length (by omega)
    omega

def pDD (a b : Int) : Prop := fits a ∧ fits b
instance tstDD {a b : Int} : Tst (pDD a b) := inferInstanceAs (Tst (fits a ∧ fits b))
theorem sizes_fc (a b : Int) (h : pDD a b) : FC Tryz.prog 151 [.wd a, .wd b] (.lit (.int .i64 (cmpI (a.natAbs : Int) (b.natAbs : Int)))) := by
  obtain ⟨ha, hb⟩ := h
  unfold fits dl at ha hb
  by_cases hl : (digs a.natAbs).length = (digs b.natAbs).length
  · rcases sizes_loop a b hl ha _ (Nat.le_refl _) (by rw [List.drop_length, hl, List.drop_length]) with ⟨i, c, h1, h2⟩ | ⟨i, h1, h2⟩
    · rw [hl] at h2
      rw [← h1]
      refine fc_fun ok3 (sizes_1 a b i c) ?_
      rw [hl]
      exact (by (repeat' (first | exact AllC.nil | refine AllC.cons ?_ ?_)); all_goals (first | exact viaL_ok | ((with_reducible refine inR64.2 ?_); omega) | (with_reducible refine pFl ?_ ?_ <;> omega) | ((with_reducible refine decide_eq_true ?_); omega) | ((with_reducible refine decide_eq_false ?_); omega) | omega | (simp [] <;> omega) | assumption | rfl))
    · rw [hl] at h2
      have e : cmpI (a.natAbs : Int) (b.natAbs : Int) = 0 := by unfold cmpI; rw [if_neg (by omega), if_neg (by omega)]
      rw [e]
      refine fc_fun ok3 (sizeE_1 a b i) ?_
      rw [hl]
      exact (by (repeat' (first | exact AllC.nil | refine AllC.cons ?_ ?_)); all_goals (first | exact viaL_ok | ((with_reducible refine inR64.2 ?_); omega) | (with_reducible refine pFl ?_ ?_ <;> omega) | ((with_reducible refine decide_eq_true ?_); omega) | ((with_reducible refine decide_eq_false ?_); omega) | omega | (simp [] <;> omega) | assumption | rfl))
  · have := fc_fun ok3 (sizeN_0 a b) (.cons (by simp; omega) (.cons trivial .nil))
    have e : cmpI ((digs a.natAbs).length : Int) ((digs b.natAbs).length : Int) = cmpI (a.natAbs : Int) (b.natAbs : Int) := by
      unfold cmpI
      by_cases h1 : (digs a.natAbs).length < (digs b.natAbs).length
      · have := lt_of_len h1
        rw [if_pos (by omega), if_pos (by omega)]
      · have := lt_of_len (show (digs b.natAbs).length < (digs a.natAbs).length by omega)
        rw [if_neg (by omega), if_pos (by omega), if_neg (by omega), if_pos (by omega)]
    rw [← e]; exact this

def ctr4 : Ctr := (151, cDD pDD (fun a b => .lit (.int .i64 (cmpI (a.natAbs : Int) (b.natAbs : Int))))) :: ctr3
theorem ctr4_all : ∀ p ∈ ctr4, CtrOK Tryz.prog p.1 p.2 := CAll.cons (cDD_ok sizes_fc) ctr3_all
theorem ok4 : (mkCfg Tryz.prog ctr4 bw).OK := cfg_ok ctr4_all

end Go.Proofs.YtloaeinogiplbaaGreatDoor
end

section
open Go Go.Ev
namespace Go.Proofs.YtloaeinogiplbaaGreatDoor
open Go.Proofs
abbrev rw3 (na nb : Bool) (a b : Int) : List Row := [.flat [.lit (.bool na), .wd a] true, .flat [.lit (.bool nb), .wd b] true, .flat [.lit (.bool false), .lit (.slice none 0 0)] true]
abbrev PZ (na nb : Bool) (a b p q : Int) : St := ⟨sp 97 [(2, .ref 0 0), (4, .ref 2 0), (5, .wd p), (6, .wd q), (7, .own 3 0 0 1), (8, .lit (.int .i64 0)), (31, .wd p), (32, .lit (.int .i64 ((digs p.natAbs).length : Int))), (33, .lit (.int .i64 0))], [.flat [.lit (.bool na), .wd a] true, .flat [.lit (.bool nb), .wd b] true, .flat [.lit (.bool false), .lit (.slice none 0 0)] true, .ints [] true], [3]⟩
abbrev PR (na nb : Bool) (a b p q i c : Int) (n : Nat) (out : List Int) : St := ⟨sp 97 [(2, .ref 0 0), (4, .ref 2 0), (5, .wd p), (6, .wd q), (7, .own 4 0 n 1), (8, .lit (.int .i64 c)), (31, .wd p), (32, .lit (.int .i64 ((digs p.natAbs).length : Int))), (33, .lit (.int .i64 i))], [.flat [.lit (.bool na), .wd a] true, .flat [.lit (.bool nb), .wd b] true, .flat [.lit (.bool false), .lit (.slice none 0 0)] true, .dead, .ints out true], [3]⟩
abbrev PL (na nb : Bool) (a b q bo i : Int) (n : Nat) (l : List Int) : St := ⟨sp 47 [(0, .own 4 0 n 1), (1, .wd q), (5, .lit (.int .i64 bo)), (7, .own 4 0 n 1), (8, .lit (.int .i64 (n : Int))), (9, .lit (.int .i64 i))], [.flat [.lit (.bool na), .wd a] true, .flat [.lit (.bool nb), .wd b] true, .flat [.lit (.bool false), .lit (.slice none 0 0)] true, .dead, .ints l true], [3, 4]⟩
end Go.Proofs.YtloaeinogiplbaaGreatDoor
end

section
open Go Go.Ev Go.RowKit
namespace Go.Proofs.YtloaeinogiplbaaGreatDoor
open Go.Proofs
set_option maxRecDepth 100000
set_option maxHeartbeats 1000000
set_option linter.unusedVariables false
set_option linter.unusedSimpArgs false


theorem plZ_0 (na nb : Bool) (a b p q : Int) : rndA (mkCfg Tryz.prog ctr4 bw) 60 (lpOf Tryz.prog 108 0) 4 [5] [2, 4, 5, 6, 7, 8, 31, 32, 33] [3] (PZ na nb a b p q) [true, true] [] = some (Ex.normal, ⟨sp 97 [(2, AV.ref 0 0), (4, AV.ref 2 0), (5, AV.wd p), (6, AV.wd q), (7, AV.own 4 0 1 1), (8, aI (Int.tdiv (List.getD (digs (Int.natAbs p)) 0 0 + 0 + List.getD (digs (Int.natAbs q)) 0 0) 100000000)), (31, AV.wd p), (32, aI (↑(List.length (digs (Int.natAbs p))) : Int)), (33, aI 1)], [Row.flat [AV.lit (Value.bool na), AV.wd a] true, Row.flat [AV.lit (Value.bool nb), AV.wd b] true, Row.flat [aF, aN] true, Row.dead, Row.ints [Int.tmod (List.getD (digs (Int.natAbs p)) 0 0 + 0 + List.getD (digs (Int.natAbs q)) 0 0) 100000000] true], [3]⟩, [decide (0 < (↑(List.length (digs (Int.natAbs p))) : Int)) = true, true = true, decide (0 < (↑(List.length (digs (Int.natAbs p))) : Int)) = true, decide (0 < List.length (digs (Int.natAbs p))) = true, inR IntKind.i64 (List.getD (digs (Int.natAbs p)) 0 0 + 0) = true, decide (0 < (↑(List.length (digs (Int.natAbs q))) : Int)) = true, true = true, decide (0 < (↑(List.length (digs (Int.natAbs q))) : Int)) = true, decide (0 < List.length (digs (Int.natAbs q))) = true, inR IntKind.i64 (List.getD (digs (Int.natAbs p)) 0 0 + 0 + List.getD (digs (Int.natAbs q)) 0 0) = true, true = true, inR IntKind.i64 (Int.tdiv (List.getD (digs (Int.natAbs p)) 0 0 + 0 + List.getD (digs (Int.natAbs q)) 0 0) 100000000) = true, true = true, true = true, true = true, true = true, decide (List.length (List.take 1 [Int.tmod (List.getD (digs (Int.natAbs p)) 0 0 + 0 + List.getD (digs (Int.natAbs q)) 0 0) 100000000]) = 1) = true, true = true]) := by kernel_rfl
theorem plZ_1 (na nb : Bool) (a b p q : Int) : rndA (mkCfg Tryz.prog ctr4 bw) 60 (lpOf Tryz.prog 108 0) 4 [5] [2, 4, 5, 6, 7, 8, 31, 32, 33] [3] (PZ na nb a b p q) [true, false] [] = some (Ex.normal, ⟨sp 97 [(2, AV.ref 0 0), (4, AV.ref 2 0), (5, AV.wd p), (6, AV.wd q), (7, AV.own 4 0 1 1), (8, aI (Int.tdiv (List.getD (digs (Int.natAbs p)) 0 0 + 0) 100000000)), (31, AV.wd p), (32, aI (↑(List.length (digs (Int.natAbs p))) : Int)), (33, aI 1)], [Row.flat [AV.lit (Value.bool na), AV.wd a] true, Row.flat [AV.lit (Value.bool nb), AV.wd b] true, Row.flat [aF, aN] true, Row.dead, Row.ints [Int.tmod (List.getD (digs (Int.natAbs p)) 0 0 + 0) 100000000] true], [3]⟩, [decide (0 < (↑(List.length (digs (Int.natAbs p))) : Int)) = true, true = true, decide (0 < (↑(List.length (digs (Int.natAbs p))) : Int)) = true, decide (0 < List.length (digs (Int.natAbs p))) = true, inR IntKind.i64 (List.getD (digs (Int.natAbs p)) 0 0 + 0) = true, decide (0 < (↑(List.length (digs (Int.natAbs q))) : Int)) = false, true = true, inR IntKind.i64 (Int.tdiv (List.getD (digs (Int.natAbs p)) 0 0 + 0) 100000000) = true, true = true, true = true, true = true, true = true, decide (List.length (List.take 1 [Int.tmod (List.getD (digs (Int.natAbs p)) 0 0 + 0) 100000000]) = 1) = true, true = true]) := by kernel_rfl
theorem plX_2 (na nb : Bool) (a b p q : Int) : rndA (mkCfg Tryz.prog ctr4 bw) 60 (lpOf Tryz.prog 108 0) 4 [] [2, 4, 5, 6, 7, 8, 31, 32, 33] [3] (PZ na nb a b p q) [false] [] = some (Ex.exit 0, ⟨sp 97 [(2, AV.ref 0 0), (4, AV.ref 2 0), (5, AV.wd p), (6, AV.wd q), (7, AV.own 3 0 0 1), (8, aI 0), (31, AV.wd p), (32, aI (↑(List.length (digs (Int.natAbs p))) : Int)), (33, aI 0)], [Row.flat [AV.lit (Value.bool na), AV.wd a] true, Row.flat [AV.lit (Value.bool nb), AV.wd b] true, Row.flat [aF, aN] true, Row.ints [] true], [3]⟩, [decide (0 < (↑(List.length (digs (Int.natAbs p))) : Int)) = false]) := by kernel_rfl
theorem plR_0 (na nb : Bool) (a b p q i c : Int) (n : Nat) (out : List Int) : rndA (mkCfg Tryz.prog ctr4 bw) 60 (lpOf Tryz.prog 108 0) 4 [6] [2, 4, 5, 6, 7, 8, 31, 32, 33] [3] (PR na nb a b p q i c n out) [true, true] [] = some (Ex.normal, ⟨sp 97 [(2, AV.ref 0 0), (4, AV.ref 2 0), (5, AV.wd p), (6, AV.wd q), (7, AV.own 4 0 (n + 1) 1), (8, aI (Int.tdiv (List.getD (digs (Int.natAbs p)) (Int.toNat i) 0 + c + List.getD (digs (Int.natAbs q)) (Int.toNat i) 0) 100000000)), (31, AV.wd p), (32, aI (↑(List.length (digs (Int.natAbs p))) : Int)), (33, aI (i + 1))], [Row.flat [AV.lit (Value.bool na), AV.wd a] true, Row.flat [AV.lit (Value.bool nb), AV.wd b] true, Row.flat [aF, aN] true, Row.dead, Row.ints (List.take n out ++ List.take 1 [Int.tmod (List.getD (digs (Int.natAbs p)) (Int.toNat i) 0 + c + List.getD (digs (Int.natAbs q)) (Int.toNat i) 0) 100000000]) true], [3]⟩, [decide (i < (↑(List.length (digs (Int.natAbs p))) : Int)) = true, decide (0 ≤ i) = true, decide (i < (↑(List.length (digs (Int.natAbs p))) : Int)) = true, decide (Int.toNat i < List.length (digs (Int.natAbs p))) = true, inR IntKind.i64 (List.getD (digs (Int.natAbs p)) (Int.toNat i) 0 + c) = true, decide (i < (↑(List.length (digs (Int.natAbs q))) : Int)) = true, decide (0 ≤ i) = true, decide (i < (↑(List.length (digs (Int.natAbs q))) : Int)) = true, decide (Int.toNat i < List.length (digs (Int.natAbs q))) = true, inR IntKind.i64 (List.getD (digs (Int.natAbs p)) (Int.toNat i) 0 + c + List.getD (digs (Int.natAbs q)) (Int.toNat i) 0) = true, true = true, inR IntKind.i64 (Int.tdiv (List.getD (digs (Int.natAbs p)) (Int.toNat i) 0 + c + List.getD (digs (Int.natAbs q)) (Int.toNat i) 0) 100000000) = true, true = true, decide ((n + 1) * 8 ≤ 140737488355328) = true, decide (n + 1 ≤ 4611686018427387904) = true, decide (n ≤ List.length out) = true, decide (List.length (List.take 1 [Int.tmod (List.getD (digs (Int.natAbs p)) (Int.toNat i) 0 + c + List.getD (digs (Int.natAbs q)) (Int.toNat i) 0) 100000000]) = 1) = true, inR IntKind.i64 (i + 1) = true]) := by kernel_rfl
theorem plR_1 (na nb : Bool) (a b p q i c : Int) (n : Nat) (out : List Int) : rndA (mkCfg Tryz.prog ctr4 bw) 60 (lpOf Tryz.prog 108 0) 4 [6] [2, 4, 5, 6, 7, 8, 31, 32, 33] [3] (PR na nb a b p q i c n out) [true, false] [] = some (Ex.normal, ⟨sp 97 [(2, AV.ref 0 0), (4, AV.ref 2 0), (5, AV.wd p), (6, AV.wd q), (7, AV.own 4 0 (n + 1) 1), (8, aI (Int.tdiv (List.getD (digs (Int.natAbs p)) (Int.toNat i) 0 + c) 100000000)), (31, AV.wd p), (32, aI (↑(List.length (digs (Int.natAbs p))) : Int)), (33, aI (i + 1))], [Row.flat [AV.lit (Value.bool na), AV.wd a] true, Row.flat [AV.lit (Value.bool nb), AV.wd b] true, Row.flat [aF, aN] true, Row.dead, Row.ints (List.take n out ++ List.take 1 [Int.tmod (List.getD (digs (Int.natAbs p)) (Int.toNat i) 0 + c) 100000000]) true], [3]⟩, [decide (i < (↑(List.length (digs (Int.natAbs p))) : Int)) = true, decide (0 ≤ i) = true, decide (i < (↑(List.length (digs (Int.natAbs p))) : Int)) = true, decide (Int.toNat i < List.length (digs (Int.natAbs p))) = true, inR IntKind.i64 (List.getD (digs (Int.natAbs p)) (Int.toNat i) 0 + c) = true, decide (i < (↑(List.length (digs (Int.natAbs q))) : Int)) = false, true = true, inR IntKind.i64 (Int.tdiv (List.getD (digs (Int.natAbs p)) (Int.toNat i) 0 + c) 100000000) = true, true = true, decide ((n + 1) * 8 ≤ 140737488355328) = true, decide (n + 1 ≤ 4611686018427387904) = true, decide (n ≤ List.length out) = true, decide (List.length (List.take 1 [Int.tmod (List.getD (digs (Int.natAbs p)) (Int.toNat i) 0 + c) 100000000]) = 1) = true, inR IntKind.i64 (i + 1) = true]) := by kernel_rfl
theorem plE_2 (na nb : Bool) (a b p q i c : Int) (n : Nat) (out : List Int) : rndA (mkCfg Tryz.prog ctr4 bw) 60 (lpOf Tryz.prog 108 0) 4 [4] [2, 4, 5, 6, 7, 8, 31, 32, 33] [3] (PR na nb a b p q i c n out) [false] [] = some (Ex.exit 0, ⟨sp 97 [(2, AV.ref 0 0), (4, AV.ref 2 0), (5, AV.wd p), (6, AV.wd q), (7, AV.own 4 0 n 1), (8, aI c), (31, AV.wd p), (32, aI (↑(List.length (digs (Int.natAbs p))) : Int)), (33, aI i)], [Row.flat [AV.lit (Value.bool na), AV.wd a] true, Row.flat [AV.lit (Value.bool nb), AV.wd b] true, Row.flat [aF, aN] true, Row.dead, Row.ints out true], [3]⟩, [decide (i < (↑(List.length (digs (Int.natAbs p))) : Int)) = false]) := by kernel_rfl
theorem leL_0 (na nb : Bool) (a b q bo i : Int) (n : Nat) (l : List Int) : rndA (mkCfg Tryz.prog ctr4 bw) 60 (lpOf Tryz.prog 152 0) 5 [] [0, 1, 5, 7, 8, 9] [3, 4] (PL na nb a b q bo i n l) [true, true, true] [] = some (Ex.normal, ⟨sp 47 [(0, AV.own 4 0 n 1), (1, AV.wd q), (5, aI 1), (7, AV.own 4 0 n 1), (8, aI (↑n : Int)), (9, aI (i + 1))], [Row.flat [AV.lit (Value.bool na), AV.wd a] true, Row.flat [AV.lit (Value.bool nb), AV.wd b] true, Row.flat [aF, aN] true, Row.dead, Row.ints (List.set (List.set (List.set l (0 + Int.toNat i * 1) (List.getD l (0 + Int.toNat i * 1) 0 - bo)) (0 + Int.toNat i * 1) (List.getD (List.set l (0 + Int.toNat i * 1) (List.getD l (0 + Int.toNat i * 1) 0 - bo)) (0 + Int.toNat i * 1) 0 - List.getD (digs (Int.natAbs q)) (Int.toNat i) 0)) (0 + Int.toNat i * 1) (List.getD (List.set (List.set l (0 + Int.toNat i * 1) (List.getD l (0 + Int.toNat i * 1) 0 - bo)) (0 + Int.toNat i * 1) (List.getD (List.set l (0 + Int.toNat i * 1) (List.getD l (0 + Int.toNat i * 1) 0 - bo)) (0 + Int.toNat i * 1) 0 - List.getD (digs (Int.natAbs q)) (Int.toNat i) 0)) (0 + Int.toNat i * 1) 0 + 100000000)) true], [3, 4]⟩, [decide (i < (↑n : Int)) = true, decide (0 ≤ i) = true, decide (i < (↑n : Int)) = true, decide (0 + Int.toNat i * 1 < List.length l) = true, inR IntKind.i64 (List.getD l (0 + Int.toNat i * 1) 0 - bo) = true, decide (0 ≤ i) = true, decide (i < (↑n : Int)) = true, decide (0 + Int.toNat i * 1 < List.length l) = true, decide (i < (↑(List.length (digs (Int.natAbs q))) : Int)) = true, decide (0 ≤ i) = true, decide (i < (↑n : Int)) = true, decide (0 ≤ i) = true, decide (i < (↑(List.length (digs (Int.natAbs q))) : Int)) = true, decide (Int.toNat i < List.length (digs (Int.natAbs q))) = true, decide (0 + Int.toNat i * 1 < List.length (List.set l (0 + Int.toNat i * 1) (List.getD l (0 + Int.toNat i * 1) 0 - bo))) = true, inR IntKind.i64 (List.getD (List.set l (0 + Int.toNat i * 1) (List.getD l (0 + Int.toNat i * 1) 0 - bo)) (0 + Int.toNat i * 1) 0 - List.getD (digs (Int.natAbs q)) (Int.toNat i) 0) = true, decide (0 ≤ i) = true, decide (i < (↑n : Int)) = true, decide (0 + Int.toNat i * 1 < List.length (List.set l (0 + Int.toNat i * 1) (List.getD l (0 + Int.toNat i * 1) 0 - bo))) = true, decide (0 ≤ i) = true, decide (i < (↑n : Int)) = true, decide (0 + Int.toNat i * 1 < List.length (List.set (List.set l (0 + Int.toNat i * 1) (List.getD l (0 + Int.toNat i * 1) 0 - bo)) (0 + Int.toNat i * 1) (List.getD (List.set l (0 + Int.toNat i * 1) (List.getD l (0 + Int.toNat i * 1) 0 - bo)) (0 + Int.toNat i * 1) 0 - List.getD (digs (Int.natAbs q)) (Int.toNat i) 0))) = true, decide (List.getD (List.set (List.set l (0 + Int.toNat i * 1) (List.getD l (0 + Int.toNat i * 1) 0 - bo)) (0 + Int.toNat i * 1) (List.getD (List.set l (0 + Int.toNat i * 1) (List.getD l (0 + Int.toNat i * 1) 0 - bo)) (0 + Int.toNat i * 1) 0 - List.getD (digs (Int.natAbs q)) (Int.toNat i) 0)) (0 + Int.toNat i * 1) 0 < 0) = true, decide (0 ≤ i) = true, decide (i < (↑n : Int)) = true, decide (0 + Int.toNat i * 1 < List.length (List.set (List.set l (0 + Int.toNat i * 1) (List.getD l (0 + Int.toNat i * 1) 0 - bo)) (0 + Int.toNat i * 1) (List.getD (List.set l (0 + Int.toNat i * 1) (List.getD l (0 + Int.toNat i * 1) 0 - bo)) (0 + Int.toNat i * 1) 0 - List.getD (digs (Int.natAbs q)) (Int.toNat i) 0))) = true, inR IntKind.i64 (List.getD (List.set (List.set l (0 + Int.toNat i * 1) (List.getD l (0 + Int.toNat i * 1) 0 - bo)) (0 + Int.toNat i * 1) (List.getD (List.set l (0 + Int.toNat i * 1) (List.getD l (0 + Int.toNat i * 1) 0 - bo)) (0 + Int.toNat i * 1) 0 - List.getD (digs (Int.natAbs q)) (Int.toNat i) 0)) (0 + Int.toNat i * 1) 0 + 100000000) = true, decide (0 ≤ i) = true, decide (i < (↑n : Int)) = true, decide (0 + Int.toNat i * 1 < List.length (List.set (List.set l (0 + Int.toNat i * 1) (List.getD l (0 + Int.toNat i * 1) 0 - bo)) (0 + Int.toNat i * 1) (List.getD (List.set l (0 + Int.toNat i * 1) (List.getD l (0 + Int.toNat i * 1) 0 - bo)) (0 + Int.toNat i * 1) 0 - List.getD (digs (Int.natAbs q)) (Int.toNat i) 0))) = true, inR IntKind.i64 (i + 1) = true]) := by kernel_rfl
theorem leL_1 (na nb : Bool) (a b q bo i : Int) (n : Nat) (l : List Int) : rndA (mkCfg Tryz.prog ctr4 bw) 60 (lpOf Tryz.prog 152 0) 5 [] [0, 1, 5, 7, 8, 9] [3, 4] (PL na nb a b q bo i n l) [true, true, false] [] = some (Ex.normal, ⟨sp 47 [(0, AV.own 4 0 n 1), (1, AV.wd q), (5, aI 0), (7, AV.own 4 0 n 1), (8, aI (↑n : Int)), (9, aI (i + 1))], [Row.flat [AV.lit (Value.bool na), AV.wd a] true, Row.flat [AV.lit (Value.bool nb), AV.wd b] true, Row.flat [aF, aN] true, Row.dead, Row.ints (List.set (List.set l (0 + Int.toNat i * 1) (List.getD l (0 + Int.toNat i * 1) 0 - bo)) (0 + Int.toNat i * 1) (List.getD (List.set l (0 + Int.toNat i * 1) (List.getD l (0 + Int.toNat i * 1) 0 - bo)) (0 + Int.toNat i * 1) 0 - List.getD (digs (Int.natAbs q)) (Int.toNat i) 0)) true], [3, 4]⟩, [decide (i < (↑n : Int)) = true, decide (0 ≤ i) = true, decide (i < (↑n : Int)) = true, decide (0 + Int.toNat i * 1 < List.length l) = true, inR IntKind.i64 (List.getD l (0 + Int.toNat i * 1) 0 - bo) = true, decide (0 ≤ i) = true, decide (i < (↑n : Int)) = true, decide (0 + Int.toNat i * 1 < List.length l) = true, decide (i < (↑(List.length (digs (Int.natAbs q))) : Int)) = true, decide (0 ≤ i) = true, decide (i < (↑n : Int)) = true, decide (0 ≤ i) = true, decide (i < (↑(List.length (digs (Int.natAbs q))) : Int)) = true, decide (Int.toNat i < List.length (digs (Int.natAbs q))) = true, decide (0 + Int.toNat i * 1 < List.length (List.set l (0 + Int.toNat i * 1) (List.getD l (0 + Int.toNat i * 1) 0 - bo))) = true, inR IntKind.i64 (List.getD (List.set l (0 + Int.toNat i * 1) (List.getD l (0 + Int.toNat i * 1) 0 - bo)) (0 + Int.toNat i * 1) 0 - List.getD (digs (Int.natAbs q)) (Int.toNat i) 0) = true, decide (0 ≤ i) = true, decide (i < (↑n : Int)) = true, decide (0 + Int.toNat i * 1 < List.length (List.set l (0 + Int.toNat i * 1) (List.getD l (0 + Int.toNat i * 1) 0 - bo))) = true, decide (0 ≤ i) = true, decide (i < (↑n : Int)) = true, decide (0 + Int.toNat i * 1 < List.length (List.set (List.set l (0 + Int.toNat i * 1) (List.getD l (0 + Int.toNat i * 1) 0 - bo)) (0 + Int.toNat i * 1) (List.getD (List.set l (0 + Int.toNat i * 1) (List.getD l (0 + Int.toNat i * 1) 0 - bo)) (0 + Int.toNat i * 1) 0 - List.getD (digs (Int.natAbs q)) (Int.toNat i) 0))) = true, decide (List.getD (List.set (List.set l (0 + Int.toNat i * 1) (List.getD l (0 + Int.toNat i * 1) 0 - bo)) (0 + Int.toNat i * 1) (List.getD (List.set l (0 + Int.toNat i * 1) (List.getD l (0 + Int.toNat i * 1) 0 - bo)) (0 + Int.toNat i * 1) 0 - List.getD (digs (Int.natAbs q)) (Int.toNat i) 0)) (0 + Int.toNat i * 1) 0 < 0) = false, inR IntKind.i64 (i + 1) = true]) := by kernel_rfl
theorem leL_2 (na nb : Bool) (a b q bo i : Int) (n : Nat) (l : List Int) : rndA (mkCfg Tryz.prog ctr4 bw) 60 (lpOf Tryz.prog 152 0) 5 [] [0, 1, 5, 7, 8, 9] [3, 4] (PL na nb a b q bo i n l) [true, false, true] [] = some (Ex.normal, ⟨sp 47 [(0, AV.own 4 0 n 1), (1, AV.wd q), (5, aI 1), (7, AV.own 4 0 n 1), (8, aI (↑n : Int)), (9, aI (i + 1))], [Row.flat [AV.lit (Value.bool na), AV.wd a] true, Row.flat [AV.lit (Value.bool nb), AV.wd b] true, Row.flat [aF, aN] true, Row.dead, Row.ints (List.set (List.set l (0 + Int.toNat i * 1) (List.getD l (0 + Int.toNat i * 1) 0 - bo)) (0 + Int.toNat i * 1) (List.getD (List.set l (0 + Int.toNat i * 1) (List.getD l (0 + Int.toNat i * 1) 0 - bo)) (0 + Int.toNat i * 1) 0 + 100000000)) true], [3, 4]⟩, [decide (i < (↑n : Int)) = true, decide (0 ≤ i) = true, decide (i < (↑n : Int)) = true, decide (0 + Int.toNat i * 1 < List.length l) = true, inR IntKind.i64 (List.getD l (0 + Int.toNat i * 1) 0 - bo) = true, decide (0 ≤ i) = true, decide (i < (↑n : Int)) = true, decide (0 + Int.toNat i * 1 < List.length l) = true, decide (i < (↑(List.length (digs (Int.natAbs q))) : Int)) = false, decide (0 ≤ i) = true, decide (i < (↑n : Int)) = true, decide (0 + Int.toNat i * 1 < List.length (List.set l (0 + Int.toNat i * 1) (List.getD l (0 + Int.toNat i * 1) 0 - bo))) = true, decide (List.getD (List.set l (0 + Int.toNat i * 1) (List.getD l (0 + Int.toNat i * 1) 0 - bo)) (0 + Int.toNat i * 1) 0 < 0) = true, decide (0 ≤ i) = true, decide (i < (↑n : Int)) = true, decide (0 + Int.toNat i * 1 < List.length (List.set l (0 + Int.toNat i * 1) (List.getD l (0 + Int.toNat i * 1) 0 - bo))) = true, inR IntKind.i64 (List.getD (List.set l (0 + Int.toNat i * 1) (List.getD l (0 + Int.toNat i * 1) 0 - bo)) (0 + Int.toNat i * 1) 0 + 100000000) = true, decide (0 ≤ i) = true, decide (i < (↑n : Int)) = true, decide (0 + Int.toNat i * 1 < List.length (List.set l (0 + Int.toNat i * 1) (List.getD l (0 + Int.toNat i * 1) 0 - bo))) = true, inR IntKind.i64 (i + 1) = true]) := by kernel_rfl
theorem leL_3 (na nb : Bool) (a b q bo i : Int) (n : Nat) (l : List Int) : rndA (mkCfg Tryz.prog ctr4 bw) 60 (lpOf Tryz.prog 152 0) 5 [] [0, 1, 5, 7, 8, 9] [3, 4] (PL na nb a b q bo i n l) [true, false, false] [] = some (Ex.normal, ⟨sp 47 [(0, AV.own 4 0 n 1), (1, AV.wd q), (5, aI 0), (7, AV.own 4 0 n 1), (8, aI (↑n : Int)), (9, aI (i + 1))], [Row.flat [AV.lit (Value.bool na), AV.wd a] true, Row.flat [AV.lit (Value.bool nb), AV.wd b] true, Row.flat [aF, aN] true, Row.dead, Row.ints (List.set l (0 + Int.toNat i * 1) (List.getD l (0 + Int.toNat i * 1) 0 - bo)) true], [3, 4]⟩, [decide (i < (↑n : Int)) = true, decide (0 ≤ i) = true, decide (i < (↑n : Int)) = true, decide (0 + Int.toNat i * 1 < List.length l) = true, inR IntKind.i64 (List.getD l (0 + Int.toNat i * 1) 0 - bo) = true, decide (0 ≤ i) = true, decide (i < (↑n : Int)) = true, decide (0 + Int.toNat i * 1 < List.length l) = true, decide (i < (↑(List.length (digs (Int.natAbs q))) : Int)) = false, decide (0 ≤ i) = true, decide (i < (↑n : Int)) = true, decide (0 + Int.toNat i * 1 < List.length (List.set l (0 + Int.toNat i * 1) (List.getD l (0 + Int.toNat i * 1) 0 - bo))) = true, decide (List.getD (List.set l (0 + Int.toNat i * 1) (List.getD l (0 + Int.toNat i * 1) 0 - bo)) (0 + Int.toNat i * 1) 0 < 0) = false, inR IntKind.i64 (i + 1) = true]) := by kernel_rfl
theorem leL_4 (na nb : Bool) (a b q bo i : Int) (n : Nat) (l : List Int) : rndA (mkCfg Tryz.prog ctr4 bw) 60 (lpOf Tryz.prog 152 0) 5 [] [0, 1, 5, 7, 8, 9] [3, 4] (PL na nb a b q bo i n l) [false] [] = some (Ex.exit 0, ⟨sp 47 [(0, AV.own 4 0 n 1), (1, AV.wd q), (5, aI bo), (7, AV.own 4 0 n 1), (8, aI (↑n : Int)), (9, aI i)], [Row.flat [AV.lit (Value.bool na), AV.wd a] true, Row.flat [AV.lit (Value.bool nb), AV.wd b] true, Row.flat [aF, aN] true, Row.dead, Row.ints l true], [3, 4]⟩, [decide (i < (↑n : Int)) = false]) := by kernel_rfl
abbrev plA_2_s0 (na : Bool) (nb : Bool) (a : Int) (b : Int) (i : Int) (c : Int) (n : Nat) (out : List Int) : St := ⟨sp 97 [(2, AV.ref 0 0), (4, AV.ref 2 0), (5, AV.wd a), (6, AV.wd b), (7, AV.own 4 0 n 1), (8, aI c), (31, AV.wd a), (32, aI (↑(List.length (digs (Int.natAbs a))) : Int)), (33, aI i)], [Row.flat [AV.lit (Value.bool na), AV.wd a] true, Row.flat [AV.lit (Value.bool nb), AV.wd b] true, Row.flat [aF, aN] true, Row.dead, Row.ints out true], [3]⟩
abbrev plA_2_s1 (na : Bool) (nb : Bool) (a : Int) (b : Int) : St := ⟨sp 97 [(2, AV.ref 0 0), (4, AV.ref 2 0), (5, AV.wd a), (6, AV.wd b), (7, AV.own 3 0 0 1), (8, aI 0), (31, AV.wd a), (32, aI (↑(List.length (digs (Int.natAbs a))) : Int)), (33, aI 0)], [Row.flat [AV.lit (Value.bool na), AV.wd a] true, Row.flat [AV.lit (Value.bool nb), AV.wd b] true, Row.flat [aF, aN] true, Row.ints [] true], [3]⟩
theorem plA_2 (na nb : Bool) (a b i c : Int) (n : Nat) (out : List Int) : funA (mkCfg Tryz.prog ctr4 bw) 60 108 [.agg [.lit (.bool na), .wd a], .agg [.lit (.bool nb), .wd b]] [true, false, true] [some (viaL Tryz.prog (lpOf Tryz.prog 108 0) [] [2,4,5,6,7,8,31,32,33] [3] (PZ na nb a b a b) (.exit 0, PR na nb a b a b i c n out))] = some (AV.agg [AV.lit (Value.bool na), AV.sq (List.take (n + 1) (List.take n out ++ List.take 1 [c]))], [(na == nb) = true, decide ((↑(List.length (digs (Int.natAbs a))) : Int) < (↑(List.length (digs (Int.natAbs b))) : Int)) = false, inR IntKind.i64 ((↑(List.length (digs (Int.natAbs a))) : Int) + 1) = true, true = true, decide (0 ≤ (↑(List.length (digs (Int.natAbs a))) : Int) + 1) = true, decide (8 * ((↑(List.length (digs (Int.natAbs a))) : Int) + 1) ≤ 281474976710656) = true, decide ((↑(List.length (digs (Int.natAbs a))) : Int) + 1 ≤ 9223372036854775807) = true, LoopOK Tryz.prog (lpOf Tryz.prog 108 0) (viaL Tryz.prog (lpOf Tryz.prog 108 0) [] [2, 4, 5, 6, 7, 8, 31, 32, 33] [3] (plA_2_s1 na nb a b) (Ex.exit 0, (plA_2_s0 na nb a b i c n out))), (plA_2_s1 na nb a b) = (plA_2_s1 na nb a b), Loops 4 Tryz.prog (lpOf Tryz.prog 108 0) (plA_2_s1 na nb a b) (Ex.exit 0, (plA_2_s0 na nb a b i c n out)), decide (c > 0) = true, decide ((n + 1) * 8 ≤ 140737488355328) = true, decide (n + 1 ≤ 4611686018427387904) = true, decide (n ≤ List.length out) = true, decide (List.length (List.take 1 [c]) = 1) = true, n + 1 ≤ List.length (List.take n out ++ List.take 1 [c])]) := by kernel_rfl
abbrev plA_3_s0 (na : Bool) (nb : Bool) (a : Int) (b : Int) (i : Int) (c : Int) (n : Nat) (out : List Int) : St := ⟨sp 97 [(2, AV.ref 0 0), (4, AV.ref 2 0), (5, AV.wd a), (6, AV.wd b), (7, AV.own 4 0 n 1), (8, aI c), (31, AV.wd a), (32, aI (↑(List.length (digs (Int.natAbs a))) : Int)), (33, aI i)], [Row.flat [AV.lit (Value.bool na), AV.wd a] true, Row.flat [AV.lit (Value.bool nb), AV.wd b] true, Row.flat [aF, aN] true, Row.dead, Row.ints out true], [3]⟩
abbrev plA_3_s1 (na : Bool) (nb : Bool) (a : Int) (b : Int) : St := ⟨sp 97 [(2, AV.ref 0 0), (4, AV.ref 2 0), (5, AV.wd a), (6, AV.wd b), (7, AV.own 3 0 0 1), (8, aI 0), (31, AV.wd a), (32, aI (↑(List.length (digs (Int.natAbs a))) : Int)), (33, aI 0)], [Row.flat [AV.lit (Value.bool na), AV.wd a] true, Row.flat [AV.lit (Value.bool nb), AV.wd b] true, Row.flat [aF, aN] true, Row.ints [] true], [3]⟩
theorem plA_3 (na nb : Bool) (a b i c : Int) (n : Nat) (out : List Int) : funA (mkCfg Tryz.prog ctr4 bw) 60 108 [.agg [.lit (.bool na), .wd a], .agg [.lit (.bool nb), .wd b]] [true, false, false] [some (viaL Tryz.prog (lpOf Tryz.prog 108 0) [] [2,4,5,6,7,8,31,32,33] [3] (PZ na nb a b a b) (.exit 0, PR na nb a b a b i c n out))] = some (AV.agg [AV.lit (Value.bool na), AV.sq (List.take n out)], [(na == nb) = true, decide ((↑(List.length (digs (Int.natAbs a))) : Int) < (↑(List.length (digs (Int.natAbs b))) : Int)) = false, inR IntKind.i64 ((↑(List.length (digs (Int.natAbs a))) : Int) + 1) = true, true = true, decide (0 ≤ (↑(List.length (digs (Int.natAbs a))) : Int) + 1) = true, decide (8 * ((↑(List.length (digs (Int.natAbs a))) : Int) + 1) ≤ 281474976710656) = true, decide ((↑(List.length (digs (Int.natAbs a))) : Int) + 1 ≤ 9223372036854775807) = true, LoopOK Tryz.prog (lpOf Tryz.prog 108 0) (viaL Tryz.prog (lpOf Tryz.prog 108 0) [] [2, 4, 5, 6, 7, 8, 31, 32, 33] [3] (plA_3_s1 na nb a b) (Ex.exit 0, (plA_3_s0 na nb a b i c n out))), (plA_3_s1 na nb a b) = (plA_3_s1 na nb a b), Loops 4 Tryz.prog (lpOf Tryz.prog 108 0) (plA_3_s1 na nb a b) (Ex.exit 0, (plA_3_s0 na nb a b i c n out)), decide (c > 0) = false, n ≤ List.length out]) := by kernel_rfl
abbrev plB_0_s0 (na : Bool) (nb : Bool) (a : Int) (b : Int) (i : Int) (c : Int) (n : Nat) (out : List Int) : St := ⟨sp 97 [(2, AV.ref 0 0), (4, AV.ref 2 0), (5, AV.wd b), (6, AV.wd a), (7, AV.own 4 0 n 1), (8, aI c), (31, AV.wd b), (32, aI (↑(List.length (digs (Int.natAbs b))) : Int)), (33, aI i)], [Row.flat [AV.lit (Value.bool na), AV.wd a] true, Row.flat [AV.lit (Value.bool nb), AV.wd b] true, Row.flat [aF, aN] true, Row.dead, Row.ints out true], [3]⟩
abbrev plB_0_s1 (na : Bool) (nb : Bool) (a : Int) (b : Int) : St := ⟨sp 97 [(2, AV.ref 0 0), (4, AV.ref 2 0), (5, AV.wd b), (6, AV.wd a), (7, AV.own 3 0 0 1), (8, aI 0), (31, AV.wd b), (32, aI (↑(List.length (digs (Int.natAbs b))) : Int)), (33, aI 0)], [Row.flat [AV.lit (Value.bool na), AV.wd a] true, Row.flat [AV.lit (Value.bool nb), AV.wd b] true, Row.flat [aF, aN] true, Row.ints [] true], [3]⟩
theorem plB_0 (na nb : Bool) (a b i c : Int) (n : Nat) (out : List Int) : funA (mkCfg Tryz.prog ctr4 bw) 60 108 [.agg [.lit (.bool na), .wd a], .agg [.lit (.bool nb), .wd b]] [true, true, true] [some (viaL Tryz.prog (lpOf Tryz.prog 108 0) [] [2,4,5,6,7,8,31,32,33] [3] (PZ na nb a b b a) (.exit 0, PR na nb a b b a i c n out))] = some (AV.agg [AV.lit (Value.bool na), AV.sq (List.take (n + 1) (List.take n out ++ List.take 1 [c]))], [(na == nb) = true, decide ((↑(List.length (digs (Int.natAbs a))) : Int) < (↑(List.length (digs (Int.natAbs b))) : Int)) = true, inR IntKind.i64 ((↑(List.length (digs (Int.natAbs b))) : Int) + 1) = true, true = true, decide (0 ≤ (↑(List.length (digs (Int.natAbs b))) : Int) + 1) = true, decide (8 * ((↑(List.length (digs (Int.natAbs b))) : Int) + 1) ≤ 281474976710656) = true, decide ((↑(List.length (digs (Int.natAbs b))) : Int) + 1 ≤ 9223372036854775807) = true, LoopOK Tryz.prog (lpOf Tryz.prog 108 0) (viaL Tryz.prog (lpOf Tryz.prog 108 0) [] [2, 4, 5, 6, 7, 8, 31, 32, 33] [3] (plB_0_s1 na nb a b) (Ex.exit 0, (plB_0_s0 na nb a b i c n out))), (plB_0_s1 na nb a b) = (plB_0_s1 na nb a b), Loops 4 Tryz.prog (lpOf Tryz.prog 108 0) (plB_0_s1 na nb a b) (Ex.exit 0, (plB_0_s0 na nb a b i c n out)), decide (c > 0) = true, decide ((n + 1) * 8 ≤ 140737488355328) = true, decide (n + 1 ≤ 4611686018427387904) = true, decide (n ≤ List.length out) = true, decide (List.length (List.take 1 [c]) = 1) = true, n + 1 ≤ List.length (List.take n out ++ List.take 1 [c])]) := by kernel_rfl
abbrev plB_1_s0 (na : Bool) (nb : Bool) (a : Int) (b : Int) (i : Int) (c : Int) (n : Nat) (out : List Int) : St := ⟨sp 97 [(2, AV.ref 0 0), (4, AV.ref 2 0), (5, AV.wd b), (6, AV.wd a), (7, AV.own 4 0 n 1), (8, aI c), (31, AV.wd b), (32, aI (↑(List.length (digs (Int.natAbs b))) : Int)), (33, aI i)], [Row.flat [AV.lit (Value.bool na), AV.wd a] true, Row.flat [AV.lit (Value.bool nb), AV.wd b] true, Row.flat [aF, aN] true, Row.dead, Row.ints out true], [3]⟩
abbrev plB_1_s1 (na : Bool) (nb : Bool) (a : Int) (b : Int) : St := ⟨sp 97 [(2, AV.ref 0 0), (4, AV.ref 2 0), (5, AV.wd b), (6, AV.wd a), (7, AV.own 3 0 0 1), (8, aI 0), (31, AV.wd b), (32, aI (↑(List.length (digs (Int.natAbs b))) : Int)), (33, aI 0)], [Row.flat [AV.lit (Value.bool na), AV.wd a] true, Row.flat [AV.lit (Value.bool nb), AV.wd b] true, Row.flat [aF, aN] true, Row.ints [] true], [3]⟩
theorem plB_1 (na nb : Bool) (a b i c : Int) (n : Nat) (out : List Int) : funA (mkCfg Tryz.prog ctr4 bw) 60 108 [.agg [.lit (.bool na), .wd a], .agg [.lit (.bool nb), .wd b]] [true, true, false] [some (viaL Tryz.prog (lpOf Tryz.prog 108 0) [] [2,4,5,6,7,8,31,32,33] [3] (PZ na nb a b b a) (.exit 0, PR na nb a b b a i c n out))] = some (AV.agg [AV.lit (Value.bool na), AV.sq (List.take n out)], [(na == nb) = true, decide ((↑(List.length (digs (Int.natAbs a))) : Int) < (↑(List.length (digs (Int.natAbs b))) : Int)) = true, inR IntKind.i64 ((↑(List.length (digs (Int.natAbs b))) : Int) + 1) = true, true = true, decide (0 ≤ (↑(List.length (digs (Int.natAbs b))) : Int) + 1) = true, decide (8 * ((↑(List.length (digs (Int.natAbs b))) : Int) + 1) ≤ 281474976710656) = true, decide ((↑(List.length (digs (Int.natAbs b))) : Int) + 1 ≤ 9223372036854775807) = true, LoopOK Tryz.prog (lpOf Tryz.prog 108 0) (viaL Tryz.prog (lpOf Tryz.prog 108 0) [] [2, 4, 5, 6, 7, 8, 31, 32, 33] [3] (plB_1_s1 na nb a b) (Ex.exit 0, (plB_1_s0 na nb a b i c n out))), (plB_1_s1 na nb a b) = (plB_1_s1 na nb a b), Loops 4 Tryz.prog (lpOf Tryz.prog 108 0) (plB_1_s1 na nb a b) (Ex.exit 0, (plB_1_s0 na nb a b i c n out)), decide (c > 0) = false, n ≤ List.length out]) := by kernel_rfl
abbrev plO_1_s0 (na : Bool) (nb : Bool) (a : Int) (b : Int) : St := ⟨sp 97 [(2, AV.ref 0 0), (4, AV.ref 2 0), (5, AV.wd a), (6, AV.wd b), (7, AV.own 3 0 0 1), (8, aI 0), (31, AV.wd a), (32, aI (↑(List.length (digs (Int.natAbs a))) : Int)), (33, aI 0)], [Row.flat [AV.lit (Value.bool na), AV.wd a] true, Row.flat [AV.lit (Value.bool nb), AV.wd b] true, Row.flat [aF, aN] true, Row.ints [] true], [3]⟩
theorem plO_1 (na nb : Bool) (a b : Int) : funA (mkCfg Tryz.prog ctr4 bw) 60 108 [.agg [.lit (.bool na), .wd a], .agg [.lit (.bool nb), .wd b]] [true, false, false] [some (viaL Tryz.prog (lpOf Tryz.prog 108 0) [] [2,4,5,6,7,8,31,32,33] [3] (PZ na nb a b a b) (.exit 0, PZ na nb a b a b))] = some (AV.agg [AV.lit (Value.bool na), AV.sq []], [(na == nb) = true, decide ((↑(List.length (digs (Int.natAbs a))) : Int) < (↑(List.length (digs (Int.natAbs b))) : Int)) = false, inR IntKind.i64 ((↑(List.length (digs (Int.natAbs a))) : Int) + 1) = true, true = true, decide (0 ≤ (↑(List.length (digs (Int.natAbs a))) : Int) + 1) = true, decide (8 * ((↑(List.length (digs (Int.natAbs a))) : Int) + 1) ≤ 281474976710656) = true, decide ((↑(List.length (digs (Int.natAbs a))) : Int) + 1 ≤ 9223372036854775807) = true, LoopOK Tryz.prog (lpOf Tryz.prog 108 0) (viaL Tryz.prog (lpOf Tryz.prog 108 0) [] [2, 4, 5, 6, 7, 8, 31, 32, 33] [3] (plO_1_s0 na nb a b) (Ex.exit 0, (plO_1_s0 na nb a b))), (plO_1_s0 na nb a b) = (plO_1_s0 na nb a b), Loops 4 Tryz.prog (lpOf Tryz.prog 108 0) (plO_1_s0 na nb a b) (Ex.exit 0, (plO_1_s0 na nb a b)), false = false, 0 ≤ 0]) := by kernel_rfl
abbrev plC_1_s0 (na : Bool) (nb : Bool) (a : Int) (b : Int) : St := ⟨sp 47 [(0, AV.own 4 0 (List.length (digs (Int.natAbs a))) 1), (1, AV.wd b), (5, aI 0), (7, AV.own 4 0 (List.length (digs (Int.natAbs a))) 1), (8, aI (↑(List.length (digs (Int.natAbs a))) : Int)), (9, aI 0)], [Row.flat [AV.lit (Value.bool na), AV.wd a] true, Row.flat [AV.lit (Value.bool nb), AV.wd b] true, Row.flat [aF, aN] true, Row.dead, Row.ints (digs (Int.natAbs a)) true], [3, 4]⟩
abbrev plC_1_s1 (na : Bool) (nb : Bool) (a : Int) (b : Int) (i : Int) (l : List Int) : St := ⟨sp 47 [(0, AV.own 4 0 (List.length (digs (Int.natAbs a))) 1), (1, AV.wd b), (5, aI 0), (7, AV.own 4 0 (List.length (digs (Int.natAbs a))) 1), (8, aI (↑(List.length (digs (Int.natAbs a))) : Int)), (9, aI i)], [Row.flat [AV.lit (Value.bool na), AV.wd a] true, Row.flat [AV.lit (Value.bool nb), AV.wd b] true, Row.flat [aF, aN] true, Row.dead, Row.ints l true], [3, 4]⟩
theorem plC_1 (na nb : Bool) (a b i : Int) (l : List Int) : funA (mkCfg Tryz.prog ctr4 bw) 60 108 [.agg [.lit (.bool na), .wd a], .agg [.lit (.bool nb), .wd b]] [false, false, true] [some (viaL Tryz.prog (lpOf Tryz.prog 152 0) [] [0,1,5,7,8,9] [3,4] (PL na nb a b b 0 0 (digs a.natAbs).length (digs a.natAbs)) (.exit 0, PL na nb a b b 0 i (digs a.natAbs).length l))] = some (AV.agg [AV.lit (Value.bool na), AV.sq (trm (List.take (List.length (digs (Int.natAbs a))) l))], [(na == nb) = false, pDD a b, (cmpI (↑(Int.natAbs a) : Int) (↑(Int.natAbs b) : Int) == 0) = false, (cmpI (↑(Int.natAbs a) : Int) (↑(Int.natAbs b) : Int) == 1) = true, (!List.isEmpty (digs (Int.natAbs a))) = true, decide ((0 + List.length (digs (Int.natAbs a))) * 8 ≤ 140737488355328) = true, decide (0 + List.length (digs (Int.natAbs a)) ≤ 4611686018427387904) = true, true = true, decide (List.length (digs (Int.natAbs a)) = List.length (digs (Int.natAbs a))) = true, LoopOK Tryz.prog (lpOf Tryz.prog 152 0) (viaL Tryz.prog (lpOf Tryz.prog 152 0) [] [0, 1, 5, 7, 8, 9] [3, 4] (plC_1_s0 na nb a b) (Ex.exit 0, (plC_1_s1 na nb a b i l))), (⟨sp 47 [(0, AV.own 4 0 (0 + List.length (digs (Int.natAbs a))) 1), (1, AV.wd b), (5, aI 0), (7, AV.own 4 0 (0 + List.length (digs (Int.natAbs a))) 1), (8, aI (↑(0 + List.length (digs (Int.natAbs a))) : Int)), (9, aI 0)], [Row.flat [AV.lit (Value.bool na), AV.wd a] true, Row.flat [AV.lit (Value.bool nb), AV.wd b] true, Row.flat [aF, aN] true, Row.dead, Row.ints (List.take 0 [] ++ digs (Int.natAbs a)) true], [3, 4]⟩ : St) = (plC_1_s0 na nb a b), Loops 5 Tryz.prog (lpOf Tryz.prog 152 0) (plC_1_s0 na nb a b) (Ex.exit 0, (plC_1_s1 na nb a b i l)), List.length (digs (Int.natAbs a)) ≤ List.length l, short64 (List.take (List.length (digs (Int.natAbs a))) l)]) := by kernel_rfl
abbrev plD_2_s0 (na : Bool) (nb : Bool) (a : Int) (b : Int) : St := ⟨sp 47 [(0, AV.own 4 0 (List.length (digs (Int.natAbs b))) 1), (1, AV.wd a), (5, aI 0), (7, AV.own 4 0 (List.length (digs (Int.natAbs b))) 1), (8, aI (↑(List.length (digs (Int.natAbs b))) : Int)), (9, aI 0)], [Row.flat [AV.lit (Value.bool na), AV.wd a] true, Row.flat [AV.lit (Value.bool nb), AV.wd b] true, Row.flat [aF, aN] true, Row.dead, Row.ints (digs (Int.natAbs b)) true], [3, 4]⟩
abbrev plD_2_s1 (na : Bool) (nb : Bool) (a : Int) (b : Int) (i : Int) (l : List Int) : St := ⟨sp 47 [(0, AV.own 4 0 (List.length (digs (Int.natAbs b))) 1), (1, AV.wd a), (5, aI 0), (7, AV.own 4 0 (List.length (digs (Int.natAbs b))) 1), (8, aI (↑(List.length (digs (Int.natAbs b))) : Int)), (9, aI i)], [Row.flat [AV.lit (Value.bool na), AV.wd a] true, Row.flat [AV.lit (Value.bool nb), AV.wd b] true, Row.flat [aF, aN] true, Row.dead, Row.ints l true], [3, 4]⟩
theorem plD_2 (na nb : Bool) (a b i : Int) (l : List Int) : funA (mkCfg Tryz.prog ctr4 bw) 60 108 [.agg [.lit (.bool na), .wd a], .agg [.lit (.bool nb), .wd b]] [false, false, false] [some (viaL Tryz.prog (lpOf Tryz.prog 152 0) [] [0,1,5,7,8,9] [3,4] (PL na nb a b a 0 0 (digs b.natAbs).length (digs b.natAbs)) (.exit 0, PL na nb a b a 0 i (digs b.natAbs).length l))] = some (AV.agg [AV.lit (Value.bool nb), AV.sq (trm (List.take (List.length (digs (Int.natAbs b))) l))], [(na == nb) = false, pDD a b, (cmpI (↑(Int.natAbs a) : Int) (↑(Int.natAbs b) : Int) == 0) = false, (cmpI (↑(Int.natAbs a) : Int) (↑(Int.natAbs b) : Int) == 1) = false, (!List.isEmpty (digs (Int.natAbs b))) = true, decide ((0 + List.length (digs (Int.natAbs b))) * 8 ≤ 140737488355328) = true, decide (0 + List.length (digs (Int.natAbs b)) ≤ 4611686018427387904) = true, true = true, decide (List.length (digs (Int.natAbs b)) = List.length (digs (Int.natAbs b))) = true, LoopOK Tryz.prog (lpOf Tryz.prog 152 0) (viaL Tryz.prog (lpOf Tryz.prog 152 0) [] [0, 1, 5, 7, 8, 9] [3, 4] (plD_2_s0 na nb a b) (Ex.exit 0, (plD_2_s1 na nb a b i l))), (⟨sp 47 [(0, AV.own 4 0 (0 + List.length (digs (Int.natAbs b))) 1), (1, AV.wd a), (5, aI 0), (7, AV.own 4 0 (0 + List.length (digs (Int.natAbs b))) 1), (8, aI (↑(0 + List.length (digs (Int.natAbs b))) : Int)), (9, aI 0)], [Row.flat [AV.lit (Value.bool na), AV.wd a] true, Row.flat [AV.lit (Value.bool nb), AV.wd b] true, Row.flat [aF, aN] true, Row.dead, Row.ints (List.take 0 [] ++ digs (Int.natAbs b)) true], [3, 4]⟩ : St) = (plD_2_s0 na nb a b), Loops 5 Tryz.prog (lpOf Tryz.prog 152 0) (plD_2_s0 na nb a b) (Ex.exit 0, (plD_2_s1 na nb a b i l)), List.length (digs (Int.natAbs b)) ≤ List.length l, short64 (List.take (List.length (digs (Int.natAbs b))) l)]) := by kernel_rfl
theorem plN_0 (na nb : Bool) (a b : Int) : funA (mkCfg Tryz.prog ctr4 bw) 60 108 [.agg [.lit (.bool na), .wd a], .agg [.lit (.bool nb), .wd b]] [false, true] [] = some (AV.agg [aF, aN], [(na == nb) = false, pDD a b, (cmpI (↑(Int.natAbs a) : Int) (↑(Int.natAbs b) : Int) == 0) = true]) := by kernel_rfl
theorem vl_drop (l : List Int) (i : Nat) : vl (l.drop i) = l.getD i 0 + 100000000 * vl (l.drop (i + 1)) := by
  by_cases h : i < l.length
  · rw [List.drop_eq_getElem_cons h]
    simp [vl, List.getD, h]
  · rw [List.drop_eq_nil_of_le (by omega), List.drop_eq_nil_of_le (by omega)]
    simp [vl, List.getD, h]
theorem dig_getD {l : List Int} (h : Digs l) (i : Nat) : 0 ≤ l.getD i 0 ∧ l.getD i 0 < 100000000 := by
  by_cases hi : i < l.length
  · have : l.getD i 0 = l[i] := by simp [List.getD, hi]
    rw [this]; exact h _ (List.getElem_mem hi)
  · have : l.getD i 0 = 0 := by simp [List.getD, hi]
    rw [this]; omega
theorem Digs_snoc {l : List Int} (h : Digs l) {d : Int} (h0 : 0 ≤ d) (h1 : d < 100000000) : Digs (l ++ [d]) := by
  intro x hx
  rcases List.mem_append.1 hx with hx | hx
  · exact h x hx
  · simp at hx; subst hx; exact ⟨h0, h1⟩
theorem trm_len_eq : ∀ {l : List Int}, l.length ≤ (trm l).length → trm l = l
  | [], _ => rfl
  | d :: l, h => by
    simp only [trm] at h ⊢
    split
    · rename_i hc
      rw [if_pos hc] at h
      simp at h
    · rename_i hc
      rw [if_neg hc] at h
      simp only [List.length_cons] at h
      rw [trm_len_eq (l := l) (by omega)]
theorem tdm {t : Int} (h : 0 ≤ t) : Int.tdiv t 100000000 = t / 100000000 ∧ Int.tmod t 100000000 = t % 100000000 :=
  ⟨Int.tdiv_eq_ediv_of_nonneg h, Int.tmod_eq_emod_of_nonneg h⟩

theorem plusR (na nb : Bool) (a b p q : Int) (hp : fits p) (hq : fits q) : ∀ (k : Nat) (out : List Int) (c : Int), (digs p.natAbs).length = out.length + k → Digs out → (c = 0 ∨ c = 1) →
    ∃ (i' c' : Int) (out' : List Int), (c' = 0 ∨ c' = 1) ∧ Digs out' ∧ out'.length = (digs p.natAbs).length ∧
      vl out' + 100000000 ^ out'.length * c' = vl out + 100000000 ^ out.length * (c + (vl ((digs p.natAbs).drop out.length) + vl ((digs q.natAbs).drop out.length))) - 100000000 ^ (digs p.natAbs).length * vl ((digs q.natAbs).drop (digs p.natAbs).length) ∧
      Loops 4 Tryz.prog (lpOf Tryz.prog 108 0) (PR na nb a b p q out.length c out.length out) (.exit 0, PR na nb a b p q i' c' out'.length out')
  | 0, out, c, hk, hd, hc => by
    unfold fits dl at hp hq
    refine ⟨_, c, out, hc, hd, by omega, ?_, Loops.fin (LS.of ok4 (plE_2 na nb a b p q out.length c out.length out) (by (repeat' (first | exact AllC.nil | refine AllC.cons ?_ ?_)); all_goals (first | exact viaL_ok | ((with_reducible refine inR64.2 ?_); omega) | (with_reducible refine pFl ?_ ?_ <;> omega) | ((with_reducible refine decide_eq_true ?_); omega) | ((with_reducible refine decide_eq_false ?_); omega) | omega | (simp [hk] <;> omega) | assumption | rfl))) (by simp [Ex.toExit])⟩
    have e : (digs p.natAbs).length = out.length := by omega
    rw [e, List.drop_eq_nil_of_le (show (digs p.natAbs).length ≤ out.length by omega)]
    simp only [vl, Int.zero_add, Int.mul_add]
    omega
  | k + 1, out, c, hk, hd, hc => by
    have hp' := hp
    have hq' := hq
    unfold fits dl at hp' hq'
    have hnat : Int.toNat (out.length : Int) = out.length := by omega
    have hx := dig_getD (Digs_digs p.natAbs) out.length
    have hy := dig_getD (Digs_digs q.natAbs) out.length
    have hlt : out.length < (digs p.natAbs).length := by omega
    have e0 : out.length + 1 = (out ++ [((digs p.natAbs).getD out.length 0 + c + (digs q.natAbs).getD out.length 0) % 100000000]).length := by simp
    have e2 : (out.length : Int) + 1 = ((out ++ [((digs p.natAbs).getD out.length 0 + c + (digs q.natAbs).getD out.length 0) % 100000000]).length : Nat) := by simp
    have hd2 : Digs (out ++ [((digs p.natAbs).getD out.length 0 + c + (digs q.natAbs).getD out.length 0) % 100000000]) := Digs_snoc hd (by omega) (by omega)
    have hstep : LS 4 Tryz.prog (lpOf Tryz.prog 108 0) (PR na nb a b p q out.length c out.length out)
        (.normal, PR na nb a b p q ((out.length : Int) + 1) (((digs p.natAbs).getD out.length 0 + c + (digs q.natAbs).getD out.length 0) / 100000000) (out.length + 1) (out ++ [((digs p.natAbs).getD out.length 0 + c + (digs q.natAbs).getD out.length 0) % 100000000])) := by
      by_cases hq2 : out.length < (digs q.natAbs).length
      · obtain ⟨t1, t2⟩ := tdm (t := (digs p.natAbs).getD out.length 0 + c + (digs q.natAbs).getD out.length 0) (by omega)
        have h := LS.of ok4 (plR_0 na nb a b p q out.length c out.length out) (by
          rw [hnat, t1]
          exact (by (repeat' (first | exact AllC.nil | refine AllC.cons ?_ ?_)); all_goals (first | exact viaL_ok | ((with_reducible refine inR64.2 ?_); omega) | (with_reducible refine pFl ?_ ?_ <;> omega) | ((with_reducible refine decide_eq_true ?_); omega) | ((with_reducible refine decide_eq_false ?_); omega) | omega | (simp [hlt, hq2] <;> omega) | assumption | rfl)))
        rw [hnat, t1, t2, take_snoc] at h
        exact h
      · have hz : (digs q.natAbs).getD out.length 0 = 0 := by
          have : ¬ out.length < (digs q.natAbs).length := hq2
          simp [List.getD, this]
        rw [hz, Int.add_zero]
        obtain ⟨t1, t2⟩ := tdm (t := (digs p.natAbs).getD out.length 0 + c) (by omega)
        have h := LS.of ok4 (plR_1 na nb a b p q out.length c out.length out) (by
          rw [hnat, t1]
          exact (by (repeat' (first | exact AllC.nil | refine AllC.cons ?_ ?_)); all_goals (first | exact viaL_ok | ((with_reducible refine inR64.2 ?_); omega) | (with_reducible refine pFl ?_ ?_ <;> omega) | ((with_reducible refine decide_eq_true ?_); omega) | ((with_reducible refine decide_eq_false ?_); omega) | omega | (simp [hlt, hq2] <;> omega) | assumption | rfl)))
        rw [hnat, t1, t2, take_snoc] at h
        exact h
    rw [e0, e2] at hstep
    obtain ⟨i', c', out', k1, k2, k3, k4, k5⟩ := plusR na nb a b p q hp hq k (out ++ [((digs p.natAbs).getD out.length 0 + c + (digs q.natAbs).getD out.length 0) % 100000000]) (((digs p.natAbs).getD out.length 0 + c + (digs q.natAbs).getD out.length 0) / 100000000)
      (by simp; omega) hd2 (by omega)
    refine ⟨i', c', out', k1, k2, k3, ?_, Loops.go hstep k5⟩
    rw [k4]
    have := vl_step out c ((digs p.natAbs).getD out.length 0 + (digs q.natAbs).getD out.length 0) (((digs p.natAbs).getD out.length 0 + c + (digs q.natAbs).getD out.length 0) % 100000000)
      (((digs p.natAbs).getD out.length 0 + c + (digs q.natAbs).getD out.length 0) / 100000000) (vl ((digs p.natAbs).drop (out.length + 1)) + vl ((digs q.natAbs).drop (out.length + 1))) (by omega)
    have e4 : c + (vl ((digs p.natAbs).drop out.length) + vl ((digs q.natAbs).drop out.length)) = c + ((digs p.natAbs).getD out.length 0 + (digs q.natAbs).getD out.length 0 + 100000000 * (vl ((digs p.natAbs).drop (out.length + 1)) + vl ((digs q.natAbs).drop (out.length + 1)))) := by
      rw [vl_drop (digs p.natAbs) out.length, vl_drop (digs q.natAbs) out.length]; omega
    rw [e4, ← this]
    simp only [List.length_append, List.length_singleton]

theorem plus0 (na nb : Bool) (a b p q : Int) (hp : fits p) (hq : fits q) (hl : (digs q.natAbs).length ≤ (digs p.natAbs).length) (h0 : 0 < (digs p.natAbs).length) :
    ∃ (i' c' : Int) (out' : List Int), (c' = 0 ∨ c' = 1) ∧ Digs out' ∧ out'.length = (digs p.natAbs).length ∧
      vl out' + 100000000 ^ out'.length * c' = (p.natAbs : Int) + (q.natAbs : Int) ∧
      Loops 4 Tryz.prog (lpOf Tryz.prog 108 0) (PZ na nb a b p q) (.exit 0, PR na nb a b p q i' c' out'.length out') := by
  have hx := dig_getD (Digs_digs p.natAbs) 0
  have hy := dig_getD (Digs_digs q.natAbs) 0
  have hd2 : Digs [((digs p.natAbs).getD 0 0 + 0 + (digs q.natAbs).getD 0 0) % 100000000] := Digs_snoc (l := []) (fun d hd => by cases hd) (by omega) (by omega)
  have hstep : LS 4 Tryz.prog (lpOf Tryz.prog 108 0) (PZ na nb a b p q)
      (.normal, PR na nb a b p q 1 (((digs p.natAbs).getD 0 0 + 0 + (digs q.natAbs).getD 0 0) / 100000000) 1 [((digs p.natAbs).getD 0 0 + 0 + (digs q.natAbs).getD 0 0) % 100000000]) := by
    by_cases hq2 : 0 < (digs q.natAbs).length
    · obtain ⟨t1, t2⟩ := tdm (t := (digs p.natAbs).getD 0 0 + 0 + (digs q.natAbs).getD 0 0) (by omega)
      have h := LS.of ok4 (plZ_0 na nb a b p q) (by
        rw [t1]
        exact (by (repeat' (first | exact AllC.nil | refine AllC.cons ?_ ?_)); all_goals (first | exact viaL_ok | ((with_reducible refine inR64.2 ?_); omega) | (with_reducible refine pFl ?_ ?_ <;> omega) | ((with_reducible refine decide_eq_true ?_); omega) | ((with_reducible refine decide_eq_false ?_); omega) | omega | (simp [h0, hq2] <;> omega) | assumption | rfl)))
      rw [t1, t2] at h
      exact h
    · have hz : (digs q.natAbs).getD 0 0 = 0 := by simp [List.getD, hq2]
      rw [hz, Int.add_zero]
      obtain ⟨t1, t2⟩ := tdm (t := (digs p.natAbs).getD 0 0 + 0) (by omega)
      have h := LS.of ok4 (plZ_1 na nb a b p q) (by
        rw [t1]
        exact (by (repeat' (first | exact AllC.nil | refine AllC.cons ?_ ?_)); all_goals (first | exact viaL_ok | ((with_reducible refine inR64.2 ?_); omega) | (with_reducible refine pFl ?_ ?_ <;> omega) | ((with_reducible refine decide_eq_true ?_); omega) | ((with_reducible refine decide_eq_false ?_); omega) | omega | (simp [h0, hq2] <;> omega) | assumption | rfl)))
      rw [t1, t2] at h
      exact h
  obtain ⟨i', c', out', k1, k2, k3, k4, k5⟩ := plusR na nb a b p q hp hq ((digs p.natAbs).length - 1) [((digs p.natAbs).getD 0 0 + 0 + (digs q.natAbs).getD 0 0) % 100000000] (((digs p.natAbs).getD 0 0 + 0 + (digs q.natAbs).getD 0 0) / 100000000) (by simp; omega) hd2 (by omega)
  refine ⟨i', c', out', k1, k2, k3, ?_, Loops.go hstep k5⟩
  rw [k4, List.drop_eq_nil_of_le hl]
  have e1 := vl_drop (digs p.natAbs) 0
  have e2 := vl_drop (digs q.natAbs) 0
  rw [List.drop_zero, vl_digs, Nat.zero_add] at e1 e2
  simp only [vl, List.length_singleton, Int.pow_succ, Int.pow_zero]
  omega

theorem lessL (na nb : Bool) (a b q : Int) (n : Nat) (hn : n ≤ 1048576) (hq : (digs q.natAbs).length ≤ n) : ∀ (suf pre : List Int) (bo : Int), (bo = 0 ∨ bo = 1) → Digs pre → Digs suf → n = pre.length + suf.length →
    ∃ (pre' : List Int) (bo' : Int), Digs pre' ∧ pre'.length = n ∧ (bo' = 0 ∨ bo' = 1) ∧ vl pre' - 100000000 ^ n * bo' = vl pre + 100000000 ^ pre.length * (vl suf - bo - vl ((digs q.natAbs).drop pre.length)) ∧
      Loops 5 Tryz.prog (lpOf Tryz.prog 152 0) (PL na nb a b q bo pre.length n (pre ++ suf)) (.exit 0, PL na nb a b q bo' n n pre')
  | [], pre, bo, hb, hp, hs, hk => by
    simp only [List.length_nil, Nat.add_zero] at hk
    subst hk
    refine ⟨pre, bo, hp, rfl, hb, ?_, ?_⟩
    · rw [List.drop_eq_nil_of_le hq]
      simp only [vl, Int.sub_zero, Int.zero_sub, Int.mul_neg]
      omega
    · rw [List.append_nil]
      exact Loops.fin (LS.of ok4 (leL_4 na nb a b q bo pre.length pre.length pre) (by (repeat' (first | exact AllC.nil | refine AllC.cons ?_ ?_)); all_goals (first | exact viaL_ok | ((with_reducible refine inR64.2 ?_); omega) | (with_reducible refine pFl ?_ ?_ <;> omega) | ((with_reducible refine decide_eq_true ?_); omega) | ((with_reducible refine decide_eq_false ?_); omega) | omega | (simp [] <;> omega) | assumption | rfl))) (by simp [Ex.toExit])
  | s :: suf, pre, bo, hb, hp, hs, hk => by
    have hs0 := hs s (by simp)
    have hsf : Digs suf := fun d hd => hs d (by simp [hd])
    have hkk : 0 + Int.toNat (pre.length : Int) * 1 = pre.length := by omega
    have hnat : Int.toNat (pre.length : Int) = pre.length := by omega
    have hy := dig_getD (Digs_digs q.natAbs) pre.length
    simp only [List.length_cons] at hk
    have main : ∀ (dg bo1 : Int), (bo1 = 0 ∨ bo1 = 1) → 0 ≤ dg → dg < 100000000 → dg - 100000000 * bo1 = s - bo - (digs q.natAbs).getD pre.length 0 →
        LS 5 Tryz.prog (lpOf Tryz.prog 152 0) (PL na nb a b q bo pre.length n (pre ++ s :: suf)) (.normal, PL na nb a b q bo1 ((pre.length : Int) + 1) n (pre ++ dg :: suf)) →
        ∃ (pre' : List Int) (bo' : Int), Digs pre' ∧ pre'.length = n ∧ (bo' = 0 ∨ bo' = 1) ∧ vl pre' - 100000000 ^ n * bo' = vl pre + 100000000 ^ pre.length * (vl (s :: suf) - bo - vl ((digs q.natAbs).drop pre.length)) ∧
          Loops 5 Tryz.prog (lpOf Tryz.prog 152 0) (PL na nb a b q bo pre.length n (pre ++ s :: suf)) (.exit 0, PL na nb a b q bo' n n pre') := by
      intro dg bo1 h1 h2 h3 h4 h
      have e : pre ++ dg :: suf = (pre ++ [dg]) ++ suf := by simp
      have e2 : (pre.length : Int) + 1 = ((pre ++ [dg]).length : Nat) := by simp
      rw [e, e2] at h
      obtain ⟨pre', bo', k1, k2, k3, k4, k5⟩ := lessL na nb a b q n hn hq suf (pre ++ [dg]) bo1 h1 (Digs_snoc hp h2 h3) hsf (by simp; omega)
      refine ⟨pre', bo', k1, k2, k3, ?_, Loops.go h k5⟩
      rw [k4, vl_snoc, List.length_append, List.length_singleton, Int.pow_succ, vl_drop (digs q.natAbs) pre.length]
      simp only [vl]
      have e3 : s + 100000000 * vl suf - bo - ((digs q.natAbs).getD pre.length 0 + 100000000 * vl ((digs q.natAbs).drop (pre.length + 1))) =
          dg + 100000000 * (vl suf - bo1 - vl ((digs q.natAbs).drop (pre.length + 1))) := by omega
      rw [e3, alg1, Int.add_assoc]
    by_cases hq2 : pre.length < (digs q.natAbs).length
    · by_cases hneg : s - bo - (digs q.natAbs).getD pre.length 0 < 0
      · have h := LS.of ok4 (leL_0 na nb a b q bo pre.length n (pre ++ s :: suf)) (by
          simp only [hnat, Nat.zero_add, Nat.mul_one, getD_mid, set_mid]
          exact (by (repeat' (first | exact AllC.nil | refine AllC.cons ?_ ?_)); all_goals (first | exact viaL_ok | ((with_reducible refine inR64.2 ?_); omega) | (with_reducible refine pFl ?_ ?_ <;> omega) | ((with_reducible refine decide_eq_true ?_); omega) | ((with_reducible refine decide_eq_false ?_); omega) | omega | (simp [hneg, hk, hq2] <;> omega) | assumption | rfl)))
        simp only [hnat, Nat.zero_add, Nat.mul_one, getD_mid, set_mid] at h
        exact main _ 1 (.inr rfl) (by omega) (by omega) (by omega) h
      · have h := LS.of ok4 (leL_1 na nb a b q bo pre.length n (pre ++ s :: suf)) (by
          simp only [hnat, Nat.zero_add, Nat.mul_one, getD_mid, set_mid]
          exact (by (repeat' (first | exact AllC.nil | refine AllC.cons ?_ ?_)); all_goals (first | exact viaL_ok | ((with_reducible refine inR64.2 ?_); omega) | (with_reducible refine pFl ?_ ?_ <;> omega) | ((with_reducible refine decide_eq_true ?_); omega) | ((with_reducible refine decide_eq_false ?_); omega) | omega | (simp [hneg, hk, hq2] <;> omega) | assumption | rfl)))
        simp only [hnat, Nat.zero_add, Nat.mul_one, getD_mid, set_mid] at h
        exact main _ 0 (.inl rfl) (by omega) (by omega) (by omega) h
    · have hz : (digs q.natAbs).getD pre.length 0 = 0 := by simp [List.getD, hq2]
      by_cases hneg : s - bo < 0
      · have h := LS.of ok4 (leL_2 na nb a b q bo pre.length n (pre ++ s :: suf)) (by
          simp only [hnat, Nat.zero_add, Nat.mul_one, getD_mid, set_mid]
          exact (by (repeat' (first | exact AllC.nil | refine AllC.cons ?_ ?_)); all_goals (first | exact viaL_ok | ((with_reducible refine inR64.2 ?_); omega) | (with_reducible refine pFl ?_ ?_ <;> omega) | ((with_reducible refine decide_eq_true ?_); omega) | ((with_reducible refine decide_eq_false ?_); omega) | omega | (simp [hneg, hk, hq2] <;> omega) | assumption | rfl)))
        simp only [hnat, Nat.zero_add, Nat.mul_one, getD_mid, set_mid] at h
        exact main _ 1 (.inr rfl) (by omega) (by omega) (by omega) h
      · have h := LS.of ok4 (leL_3 na nb a b q bo pre.length n (pre ++ s :: suf)) (by
          simp only [hnat, Nat.zero_add, Nat.mul_one, getD_mid, set_mid]
          exact (by (repeat' (first | exact AllC.nil | refine AllC.cons ?_ ?_)); all_goals (first | exact viaL_ok | ((with_reducible refine inR64.2 ?_); omega) | (with_reducible refine pFl ?_ ?_ <;> omega) | ((with_reducible refine decide_eq_true ?_); omega) | ((with_reducible refine decide_eq_false ?_); omega) | omega | (simp [hneg, hk, hq2] <;> omega) | assumption | rfl)))
        simp only [hnat, Nat.zero_add, Nat.mul_one, getD_mid, set_mid] at h
        exact main _ 0 (.inl rfl) (by omega) (by omega) (by omega) h

theorem canon_of_ge {out : List Int} {m n : Nat} (hd : Digs out) (hv : vl out = (n : Int)) (hl : out.length = (digs m).length) (hmn : m ≤ n) : out = digs n := by
  have h1 := trm_digs hd
  rw [hv, Int.toNat_natCast] at h1
  have h2 : (digs m).length ≤ (digs n).length := by
    rcases Nat.lt_or_ge (digs n).length (digs m).length with h | h
    · have := lt_of_len h; omega
    · exact h
  rw [← h1]
  exact (trm_len_eq (by rw [h1]; omega)).symm

theorem plus_same (a b : Int) (ha : fits a) (hb : fits b) (hs : decide (a < 0) = decide (b < 0)) (nb : Bool) (hnb : nb = decide (a < 0)) (l : List Int) (hl : l = digs (a.natAbs + b.natAbs)) :
    ∀ (E : Env) (v : Value), Rd E (.agg [.lit (.bool nb), .sq l]) v → Rd E (W (a + b)) v := by
  intro E v h
  have hs' : (a < 0) ↔ (b < 0) := by simpa using hs
  refine h.toW (b := nb) rfl rfl ?_ ?_
  · rw [hnb, decide_eq_decide]; omega
  · rw [hl]; congr 1; omega

theorem plus_fc (a b : Int) (h : pDD a b) : FC Tryz.prog 108 [W a, W b] (W (a + b)) := by
  obtain ⟨ha, hb⟩ := h
  have ha' := ha
  have hb' := hb
  unfold fits dl at ha' hb'
  by_cases hs : decide (a < 0) = decide (b < 0)
  · have hbe : (decide (a < 0) == decide (b < 0)) = true := by simpa using hs
    by_cases hl : (digs a.natAbs).length < (digs b.natAbs).length
    · -- the second one is longer
      obtain ⟨i', c', out, k1, k2, k3, k4, k5⟩ := plus0 (decide (a < 0)) (decide (b < 0)) a b b a hb ha (by omega) (by omega)
      rcases k1 with rfl | rfl
      · have := fc_fun ok4 (plB_1 (decide (a < 0)) (decide (b < 0)) a b i' 0 out.length out) (by (repeat' (first | exact AllC.nil | refine AllC.cons ?_ ?_)); all_goals (first | exact viaL_ok | ((with_reducible refine inR64.2 ?_); omega) | (with_reducible refine pFl ?_ ?_ <;> omega) | ((with_reducible refine decide_eq_true ?_); omega) | ((with_reducible refine decide_eq_false ?_); omega) | omega | (simp [hbe, hl] <;> omega) | assumption | rfl))
        rw [take_all] at this
        refine this.res (plus_same a b ha hb hs _ rfl out ?_)
        exact canon_of_ge (m := b.natAbs) (n := a.natAbs + b.natAbs) k2 (by rw [Int.mul_zero] at k4; omega) k3 (by omega)
      · have := fc_fun ok4 (plB_0 (decide (a < 0)) (decide (b < 0)) a b i' 1 out.length out) (by (repeat' (first | exact AllC.nil | refine AllC.cons ?_ ?_)); all_goals (first | exact viaL_ok | ((with_reducible refine inR64.2 ?_); omega) | (with_reducible refine pFl ?_ ?_ <;> omega) | ((with_reducible refine decide_eq_true ?_); omega) | ((with_reducible refine decide_eq_false ?_); omega) | omega | (simp [hbe, hl] <;> omega) | assumption | rfl))
        have e : List.take (out.length + 1) (List.take out.length out ++ List.take 1 [1]) = out ++ [1] := by
          rw [take_snoc]; exact List.take_of_length_le (by simp)
        rw [e] at this
        refine this.res (plus_same a b ha hb hs _ rfl _ ?_)
        have hv : vl (out ++ [1]) = ((a.natAbs + b.natAbs : Nat) : Int) := by rw [vl_snoc]; omega
        have := digs_vl (Digs_snoc k2 (d := 1) (by omega) (by omega)) (trm_last out 1 (by decide))
        rw [hv, Int.toNat_natCast] at this
        exact this.symm
    · by_cases h0 : 0 < (digs a.natAbs).length
      · obtain ⟨i', c', out, k1, k2, k3, k4, k5⟩ := plus0 (decide (a < 0)) (decide (b < 0)) a b a b ha hb (by omega) h0
        rcases k1 with rfl | rfl
        · have := fc_fun ok4 (plA_3 (decide (a < 0)) (decide (b < 0)) a b i' 0 out.length out) (by (repeat' (first | exact AllC.nil | refine AllC.cons ?_ ?_)); all_goals (first | exact viaL_ok | ((with_reducible refine inR64.2 ?_); omega) | (with_reducible refine pFl ?_ ?_ <;> omega) | ((with_reducible refine decide_eq_true ?_); omega) | ((with_reducible refine decide_eq_false ?_); omega) | omega | (simp [hbe, hl] <;> omega) | assumption | rfl))
          rw [take_all] at this
          refine this.res (plus_same a b ha hb hs _ rfl out ?_)
          exact canon_of_ge (m := a.natAbs) (n := a.natAbs + b.natAbs) k2 (by rw [Int.mul_zero] at k4; omega) k3 (by omega)
        · have := fc_fun ok4 (plA_2 (decide (a < 0)) (decide (b < 0)) a b i' 1 out.length out) (by (repeat' (first | exact AllC.nil | refine AllC.cons ?_ ?_)); all_goals (first | exact viaL_ok | ((with_reducible refine inR64.2 ?_); omega) | (with_reducible refine pFl ?_ ?_ <;> omega) | ((with_reducible refine decide_eq_true ?_); omega) | ((with_reducible refine decide_eq_false ?_); omega) | omega | (simp [hbe, hl] <;> omega) | assumption | rfl))
          have e : List.take (out.length + 1) (List.take out.length out ++ List.take 1 [1]) = out ++ [1] := by
            rw [take_snoc]; exact List.take_of_length_le (by simp)
          rw [e] at this
          refine this.res (plus_same a b ha hb hs _ rfl _ ?_)
          have hv : vl (out ++ [1]) = ((a.natAbs + b.natAbs : Nat) : Int) := by rw [vl_snoc]; omega
          have := digs_vl (Digs_snoc k2 (d := 1) (by omega) (by omega)) (trm_last out 1 (by decide))
          rw [hv, Int.toNat_natCast] at this
          exact this.symm
      · have ea : a.natAbs = 0 := (digs_nil _).1 (List.eq_nil_of_length_eq_zero (by omega))
        have eb : b.natAbs = 0 := (digs_nil _).1 (List.eq_nil_of_length_eq_zero (by omega))
        have hL := Loops.fin (LS.of ok4 (plX_2 (decide (a < 0)) (decide (b < 0)) a b a b) (by (repeat' (first | exact AllC.nil | refine AllC.cons ?_ ?_)); all_goals (first | exact viaL_ok | ((with_reducible refine inR64.2 ?_); omega) | (with_reducible refine pFl ?_ ?_ <;> omega) | ((with_reducible refine decide_eq_true ?_); omega) | ((with_reducible refine decide_eq_false ?_); omega) | omega | (simp [h0] <;> omega) | assumption | rfl))) (by simp [Ex.toExit])
        have := fc_fun ok4 (plO_1 (decide (a < 0)) (decide (b < 0)) a b) (by (repeat' (first | exact AllC.nil | refine AllC.cons ?_ ?_)); all_goals (first | exact viaL_ok | ((with_reducible refine inR64.2 ?_); omega) | (with_reducible refine pFl ?_ ?_ <;> omega) | ((with_reducible refine decide_eq_true ?_); omega) | ((with_reducible refine decide_eq_false ?_); omega) | omega | (simp [hbe, hl] <;> omega) | assumption | rfl))
        refine this.res (plus_same a b ha hb hs _ rfl _ ?_)
        rw [ea, eb]; rfl
  · have hbe : (decide (a < 0) == decide (b < 0)) = false := by
      cases h1 : decide (a < 0) <;> cases h2 : decide (b < 0) <;> simp_all
    have hs' : ¬ ((a < 0) ↔ (b < 0)) := by simpa using hs
    rcases Nat.lt_trichotomy a.natAbs b.natAbs with hlt | heq | hgt
    · -- the second one is greater
      obtain ⟨out, bo, k1, k2, k3, k4, k5⟩ := lessL (decide (a < 0)) (decide (b < 0)) a b a (digs b.natAbs).length hb' (by
        rcases Nat.lt_or_ge (digs b.natAbs).length (digs a.natAbs).length with h | h
        · have := lt_of_len h; omega
        · exact h) (digs b.natAbs) [] 0 (.inl rfl) (fun d hd => by cases hd) (Digs_digs _) (by simp)
      simp only [List.length_nil, List.nil_append, vl, Int.pow_zero, Int.one_mul, Int.zero_add, List.drop_zero, vl_digs, Int.sub_zero] at k4 k5
      have hv := vl_lt k1
      rw [k2] at hv
      have hbo : bo = 0 := by
        rcases k3 with h | h
        · exact h
        · subst h; omega
      subst hbo
      have hcmp : cmpI (a.natAbs : Int) (b.natAbs : Int) = -1 := by unfold cmpI; rw [if_pos (by omega)]
      have hbn : b ≠ 0 := by omega
      have hne := digs_ne hbn
      have k5' : Loops 5 Tryz.prog (lpOf Tryz.prog 152 0) (PL (decide (a < 0)) (decide (b < 0)) a b a 0 0 (digs b.natAbs).length (digs b.natAbs)) (.exit 0, PL (decide (a < 0)) (decide (b < 0)) a b a 0 ((digs b.natAbs).length : Int) (digs b.natAbs).length out) := k5
      have hP : pDD a b := ⟨ha, hb⟩
      have ht : List.take (digs b.natAbs).length out = out := by rw [← k2, take_all]
      have := fc_fun ok4 (plD_2 (decide (a < 0)) (decide (b < 0)) a b ((digs b.natAbs).length : Int) out) (by
        rw [hcmp, ht]
        simp only [Nat.zero_add, List.take_zero, List.nil_append]
        exact (by (repeat' (first | exact AllC.nil | refine AllC.cons ?_ ?_)); all_goals (first | exact viaL_ok | ((with_reducible refine inR64.2 ?_); omega) | (with_reducible refine pFl ?_ ?_ <;> omega) | ((with_reducible refine decide_eq_true ?_); omega) | ((with_reducible refine decide_eq_false ?_); omega) | omega | (simp [hbe, hne, short64] <;> omega) | assumption | rfl)))
      rw [ht] at this
      refine this.res fun E v h => h.toW (b := decide (b < 0)) rfl rfl ?_ ?_
      · rw [decide_eq_decide]; omega
      · rw [trm_digs k1]; congr 1; omega
    · have := fc_fun ok4 (plN_0 (decide (a < 0)) (decide (b < 0)) a b) (by
        have hP : pDD a b := ⟨ha, hb⟩
        have hcmp : cmpI (a.natAbs : Int) (b.natAbs : Int) = 0 := by unfold cmpI; rw [if_neg (by omega), if_neg (by omega)]
        rw [hcmp]
        exact (by (repeat' (first | exact AllC.nil | refine AllC.cons ?_ ?_)); all_goals (first | exact viaL_ok | ((with_reducible refine inR64.2 ?_); omega) | (with_reducible refine pFl ?_ ?_ <;> omega) | ((with_reducible refine decide_eq_true ?_); omega) | ((with_reducible refine decide_eq_false ?_); omega) | omega | (simp [hbe] <;> omega) | assumption | rfl)))
      refine this.res fun E v h => h.toW (b := false) (l := []) rfl rfl ?_ ?_
      · simp; omega
      · rw [show (a + b).natAbs = 0 by omega]; rfl
    · obtain ⟨out, bo, k1, k2, k3, k4, k5⟩ := lessL (decide (a < 0)) (decide (b < 0)) a b b (digs a.natAbs).length ha' (by
        rcases Nat.lt_or_ge (digs a.natAbs).length (digs b.natAbs).length with h | h
        · have := lt_of_len h; omega
        · exact h) (digs a.natAbs) [] 0 (.inl rfl) (fun d hd => by cases hd) (Digs_digs _) (by simp)
      simp only [List.length_nil, List.nil_append, vl, Int.pow_zero, Int.one_mul, Int.zero_add, List.drop_zero, vl_digs, Int.sub_zero] at k4 k5
      have hv := vl_lt k1
      rw [k2] at hv
      have hbo : bo = 0 := by
        rcases k3 with h | h
        · exact h
        · subst h; omega
      subst hbo
      have hcmp : cmpI (a.natAbs : Int) (b.natAbs : Int) = 1 := by unfold cmpI; rw [if_neg (by omega), if_pos (by omega)]
      have hbn : a ≠ 0 := by omega
      have hne := digs_ne hbn
      have k5' : Loops 5 Tryz.prog (lpOf Tryz.prog 152 0) (PL (decide (a < 0)) (decide (b < 0)) a b b 0 0 (digs a.natAbs).length (digs a.natAbs)) (.exit 0, PL (decide (a < 0)) (decide (b < 0)) a b b 0 ((digs a.natAbs).length : Int) (digs a.natAbs).length out) := k5
      have hP : pDD a b := ⟨ha, hb⟩
      have ht : List.take (digs a.natAbs).length out = out := by rw [← k2, take_all]
      have := fc_fun ok4 (plC_1 (decide (a < 0)) (decide (b < 0)) a b ((digs a.natAbs).length : Int) out) (by
        rw [hcmp, ht]
        simp only [Nat.zero_add, List.take_zero, List.nil_append]
        exact (by (repeat' (first | exact AllC.nil | refine AllC.cons ?_ ?_)); all_goals (first | exact viaL_ok | ((with_reducible refine inR64.2 ?_); omega) | (with_reducible refine pFl ?_ ?_ <;> omega) | ((with_reducible refine decide_eq_true ?_); omega) | ((with_reducible refine decide_eq_false ?_); omega) | omega | (simp [hbe, hne, short64] <;> omega) | assumption | rfl)))
      rw [ht] at this
      refine this.res fun E v h => h.toW (b := decide (a < 0)) rfl rfl ?_ ?_
      · rw [decide_eq_decide]; omega
      · rw [trm_digs k1]; congr 1; omega

def ctr5 : Ctr := (108, c2 pDD (fun a b => W (a + b))) :: ctr4
theorem ctr5_all : ∀ p ∈ ctr5, CtrOK Tryz.prog p.1 p.2 := CAll.cons (c2_ok plus_fc) ctr4_all
theorem ok5 : (mkCfg Tryz.prog ctr5 bw).OK := cfg_ok ctr5_all

end Go.Proofs.YtloaeinogiplbaaGreatDoor
end

section
open Go Go.Ev
namespace Go.Proofs.YtloaeinogiplbaaGreatDoor
open Go.Proofs
abbrev TO (na nb : Bool) (a b i : Int) (n : Nat) (l : List Int) : St := ⟨sp 86 [(2, .ref 0 0), (3, .ref 1 0), (4, .ref 2 0), (5, .own 3 0 n 1), (32, .wd a), (33, .lit (.int .i64 ((digs a.natAbs).length : Int))), (34, .lit (.int .i64 i))], [.flat [.lit (.bool na), .wd a] true, .flat [.lit (.bool nb), .wd b] true, .flat [.lit (.bool false), .lit (.slice none 0 0)] true, .ints l true], [3]⟩
abbrev TN (na nb : Bool) (a b i d c k : Int) (n : Nat) (l : List Int) : St := ⟨sp 86 [(2, .ref 0 0), (3, .ref 1 0), (4, .ref 2 0), (5, .own 3 0 n 1), (6, .lit (.int .i64 i)), (7, .lit (.int .i64 d)), (8, .lit (.int .i64 c)), (32, .wd a), (33, .lit (.int .i64 ((digs a.natAbs).length : Int))), (34, .lit (.int .i64 i)), (40, .wd b), (41, .lit (.int .i64 ((digs b.natAbs).length : Int))), (42, .lit (.int .i64 k))], [.flat [.lit (.bool na), .wd a] true, .flat [.lit (.bool nb), .wd b] true, .flat [.lit (.bool false), .lit (.slice none 0 0)] true, .ints l true], [3]⟩
end Go.Proofs.YtloaeinogiplbaaGreatDoor
end

section
open Go Go.Ev Go.RowKit
namespace Go.Proofs.YtloaeinogiplbaaGreatDoor
open Go.Proofs
set_option maxRecDepth 100000
set_option maxHeartbeats 1000000
set_option linter.unusedVariables false
set_option linter.unusedSimpArgs false


theorem tiL_0 (na nb : Bool) (a b i d c k : Int) (n : Nat) (l : List Int) : rndA (mkCfg Tryz.prog ctr5 bw) 60 (lpOf Tryz.prog 107 1) 4 [] [2, 3, 4, 5, 6, 7, 8, 32, 33, 34, 40, 41, 42] [3] (TN na nb a b i d c k n l) [true] [] = some (Ex.normal, ⟨sp 86 [(2, AV.ref 0 0), (3, AV.ref 1 0), (4, AV.ref 2 0), (5, AV.own 3 0 n 1), (6, aI i), (7, aI d), (8, aI (Int.tdiv (List.getD l (0 + Int.toNat (i + k) * 1) 0 + d * List.getD (digs (Int.natAbs b)) (Int.toNat k) 0 + c) 100000000)), (32, AV.wd a), (33, aI (↑(List.length (digs (Int.natAbs a))) : Int)), (34, aI i), (40, AV.wd b), (41, aI (↑(List.length (digs (Int.natAbs b))) : Int)), (42, aI (k + 1))], [Row.flat [AV.lit (Value.bool na), AV.wd a] true, Row.flat [AV.lit (Value.bool nb), AV.wd b] true, Row.flat [aF, aN] true, Row.ints (List.set l (0 + Int.toNat (i + k) * 1) (Int.tmod (List.getD l (0 + Int.toNat (i + k) * 1) 0 + d * List.getD (digs (Int.natAbs b)) (Int.toNat k) 0 + c) 100000000)) true], [3]⟩, [decide (k < (↑(List.length (digs (Int.natAbs b))) : Int)) = true, decide (0 ≤ k) = true, decide (k < (↑(List.length (digs (Int.natAbs b))) : Int)) = true, decide (Int.toNat k < List.length (digs (Int.natAbs b))) = true, inR IntKind.i64 (i + k) = true, decide (0 ≤ i + k) = true, decide (i + k < (↑n : Int)) = true, decide (0 + Int.toNat (i + k) * 1 < List.length l) = true, inR IntKind.i64 (d * List.getD (digs (Int.natAbs b)) (Int.toNat k) 0) = true, inR IntKind.i64 (List.getD l (0 + Int.toNat (i + k) * 1) 0 + d * List.getD (digs (Int.natAbs b)) (Int.toNat k) 0) = true, inR IntKind.i64 (List.getD l (0 + Int.toNat (i + k) * 1) 0 + d * List.getD (digs (Int.natAbs b)) (Int.toNat k) 0 + c) = true, inR IntKind.i64 (i + k) = true, true = true, true = true, inR IntKind.i64 (Int.tdiv (List.getD l (0 + Int.toNat (i + k) * 1) 0 + d * List.getD (digs (Int.natAbs b)) (Int.toNat k) 0 + c) 100000000) = true, decide (0 ≤ i + k) = true, decide (i + k < (↑n : Int)) = true, decide (0 + Int.toNat (i + k) * 1 < List.length l) = true, inR IntKind.i64 (k + 1) = true]) := by kernel_rfl
theorem tiL_1 (na nb : Bool) (a b i d c k : Int) (n : Nat) (l : List Int) : rndA (mkCfg Tryz.prog ctr5 bw) 60 (lpOf Tryz.prog 107 1) 4 [] [2, 3, 4, 5, 6, 7, 8, 32, 33, 34, 40, 41, 42] [3] (TN na nb a b i d c k n l) [false] [] = some (Ex.exit 2, ⟨sp 86 [(2, AV.ref 0 0), (3, AV.ref 1 0), (4, AV.ref 2 0), (5, AV.own 3 0 n 1), (6, aI i), (7, aI d), (8, aI c), (32, AV.wd a), (33, aI (↑(List.length (digs (Int.natAbs a))) : Int)), (34, aI i), (40, AV.wd b), (41, aI (↑(List.length (digs (Int.natAbs b))) : Int)), (42, aI k)], [Row.flat [AV.lit (Value.bool na), AV.wd a] true, Row.flat [AV.lit (Value.bool nb), AV.wd b] true, Row.flat [aF, aN] true, Row.ints l true], [3]⟩, [decide (k < (↑(List.length (digs (Int.natAbs b))) : Int)) = false]) := by kernel_rfl
abbrev toL_0_s0 (na : Bool) (nb : Bool) (a : Int) (b : Int) (i : Int) (c : Int) (k : Int) (n : Nat) (l2 : List Int) : St := ⟨sp 86 [(2, AV.ref 0 0), (3, AV.ref 1 0), (4, AV.ref 2 0), (5, AV.own 3 0 n 1), (6, aI i), (7, aI (List.getD (digs (Int.natAbs a)) (Int.toNat i) 0)), (8, aI c), (32, AV.wd a), (33, aI (↑(List.length (digs (Int.natAbs a))) : Int)), (34, aI i), (40, AV.wd b), (41, aI (↑(List.length (digs (Int.natAbs b))) : Int)), (42, aI k)], [Row.flat [AV.lit (Value.bool na), AV.wd a] true, Row.flat [AV.lit (Value.bool nb), AV.wd b] true, Row.flat [aF, aN] true, Row.ints l2 true], [3]⟩
abbrev toL_0_s1 (na : Bool) (nb : Bool) (a : Int) (b : Int) (i : Int) (n : Nat) (l : List Int) : St := ⟨sp 86 [(2, AV.ref 0 0), (3, AV.ref 1 0), (4, AV.ref 2 0), (5, AV.own 3 0 n 1), (6, aI i), (7, aI (List.getD (digs (Int.natAbs a)) (Int.toNat i) 0)), (8, aI 0), (32, AV.wd a), (33, aI (↑(List.length (digs (Int.natAbs a))) : Int)), (34, aI i), (40, AV.wd b), (41, aI (↑(List.length (digs (Int.natAbs b))) : Int)), (42, aI 0)], [Row.flat [AV.lit (Value.bool na), AV.wd a] true, Row.flat [AV.lit (Value.bool nb), AV.wd b] true, Row.flat [aF, aN] true, Row.ints l true], [3]⟩
theorem toL_0 (na nb : Bool) (a b i c k : Int) (n : Nat) (l l2 : List Int) : rndA (mkCfg Tryz.prog ctr5 bw) 60 (lpOf Tryz.prog 107 0) 4 [] [2, 3, 4, 5, 32, 33, 34] [3] (TO na nb a b i n l) [true] [some (viaL Tryz.prog (lpOf Tryz.prog 107 1) [] [2,3,4,5,6,7,8,32,33,34,40,41,42] [3] (TN na nb a b i ((digs a.natAbs).getD i.toNat 0) 0 0 n l) (.exit 2, TN na nb a b i ((digs a.natAbs).getD i.toNat 0) c k n l2))] = some (Ex.normal, ⟨sp 86 [(2, AV.ref 0 0), (3, AV.ref 1 0), (4, AV.ref 2 0), (5, AV.own 3 0 n 1), (32, AV.wd a), (33, aI (↑(List.length (digs (Int.natAbs a))) : Int)), (34, aI (i + 1))], [Row.flat [AV.lit (Value.bool na), AV.wd a] true, Row.flat [AV.lit (Value.bool nb), AV.wd b] true, Row.flat [aF, aN] true, Row.ints (List.set l2 (0 + Int.toNat (i + (↑(List.length (digs (Int.natAbs b))) : Int)) * 1) c) true], [3]⟩, [decide (i < (↑(List.length (digs (Int.natAbs a))) : Int)) = true, decide (0 ≤ i) = true, decide (i < (↑(List.length (digs (Int.natAbs a))) : Int)) = true, decide (Int.toNat i < List.length (digs (Int.natAbs a))) = true, LoopOK Tryz.prog (lpOf Tryz.prog 107 1) (viaL Tryz.prog (lpOf Tryz.prog 107 1) [] [2, 3, 4, 5, 6, 7, 8, 32, 33, 34, 40, 41, 42] [3] (toL_0_s1 na nb a b i n l) (Ex.exit 2, (toL_0_s0 na nb a b i c k n l2))), (toL_0_s1 na nb a b i n l) = (toL_0_s1 na nb a b i n l), Loops 4 Tryz.prog (lpOf Tryz.prog 107 1) (toL_0_s1 na nb a b i n l) (Ex.exit 2, (toL_0_s0 na nb a b i c k n l2)), inR IntKind.i64 (i + (↑(List.length (digs (Int.natAbs b))) : Int)) = true, decide (0 ≤ i + (↑(List.length (digs (Int.natAbs b))) : Int)) = true, decide (i + (↑(List.length (digs (Int.natAbs b))) : Int) < (↑n : Int)) = true, decide (0 + Int.toNat (i + (↑(List.length (digs (Int.natAbs b))) : Int)) * 1 < List.length l2) = true, inR IntKind.i64 (i + 1) = true]) := by kernel_rfl
theorem toE_0 (na nb : Bool) (a b i : Int) (n : Nat) (l : List Int) : rndA (mkCfg Tryz.prog ctr5 bw) 60 (lpOf Tryz.prog 107 0) 4 [] [2, 3, 4, 5, 32, 33, 34] [3] (TO na nb a b i n l) [false] [] = some (Ex.exit 0, ⟨sp 86 [(2, AV.ref 0 0), (3, AV.ref 1 0), (4, AV.ref 2 0), (5, AV.own 3 0 n 1), (32, AV.wd a), (33, aI (↑(List.length (digs (Int.natAbs a))) : Int)), (34, aI i)], [Row.flat [AV.lit (Value.bool na), AV.wd a] true, Row.flat [AV.lit (Value.bool nb), AV.wd b] true, Row.flat [aF, aN] true, Row.ints l true], [3]⟩, [decide (i < (↑(List.length (digs (Int.natAbs a))) : Int)) = false]) := by kernel_rfl
abbrev tim_2_s0 (na : Bool) (nb : Bool) (a : Int) (b : Int) (n : Nat) : St := ⟨sp 86 [(2, AV.ref 0 0), (3, AV.ref 1 0), (4, AV.ref 2 0), (5, AV.own 3 0 n 1), (32, AV.wd a), (33, aI (↑(List.length (digs (Int.natAbs a))) : Int)), (34, aI 0)], [Row.flat [AV.lit (Value.bool na), AV.wd a] true, Row.flat [AV.lit (Value.bool nb), AV.wd b] true, Row.flat [aF, aN] true, Row.ints (List.replicate n 0) true], [3]⟩
abbrev tim_2_s1 (na : Bool) (nb : Bool) (a : Int) (b : Int) (i : Int) (n : Nat) (l : List Int) : St := ⟨sp 86 [(2, AV.ref 0 0), (3, AV.ref 1 0), (4, AV.ref 2 0), (5, AV.own 3 0 n 1), (32, AV.wd a), (33, aI (↑(List.length (digs (Int.natAbs a))) : Int)), (34, aI i)], [Row.flat [AV.lit (Value.bool na), AV.wd a] true, Row.flat [AV.lit (Value.bool nb), AV.wd b] true, Row.flat [aF, aN] true, Row.ints l true], [3]⟩
theorem tim_2 (na nb : Bool) (a b i : Int) (n : Nat) (l : List Int) : funA (mkCfg Tryz.prog ctr5 bw) 60 107 [.agg [.lit (.bool na), .wd a], .agg [.lit (.bool nb), .wd b]] [false, false] [some (viaL Tryz.prog (lpOf Tryz.prog 107 0) [] [2,3,4,5,32,33,34] [3] (TO na nb a b 0 n (List.replicate n 0)) (.exit 0, TO na nb a b i n l))] = some (AV.agg [AV.lit (Value.bool (!(na == nb))), AV.sq (trm (List.take n l))], [((↑(List.length (digs (Int.natAbs a))) : Int) == 0) = false, ((↑(List.length (digs (Int.natAbs b))) : Int) == 0) = false, inR IntKind.i64 ((↑(List.length (digs (Int.natAbs a))) : Int) + (↑(List.length (digs (Int.natAbs b))) : Int)) = true, decide (0 ≤ (↑(List.length (digs (Int.natAbs a))) : Int) + (↑(List.length (digs (Int.natAbs b))) : Int)) = true, decide ((↑(List.length (digs (Int.natAbs a))) : Int) + (↑(List.length (digs (Int.natAbs b))) : Int) ≤ (↑(List.length (digs (Int.natAbs a))) : Int) + (↑(List.length (digs (Int.natAbs b))) : Int)) = true, decide (8 * ((↑(List.length (digs (Int.natAbs a))) : Int) + (↑(List.length (digs (Int.natAbs b))) : Int)) ≤ 281474976710656) = true, decide ((↑(List.length (digs (Int.natAbs a))) : Int) + (↑(List.length (digs (Int.natAbs b))) : Int) ≤ 9223372036854775807) = true, LoopOK Tryz.prog (lpOf Tryz.prog 107 0) (viaL Tryz.prog (lpOf Tryz.prog 107 0) [] [2, 3, 4, 5, 32, 33, 34] [3] (tim_2_s0 na nb a b n) (Ex.exit 0, (tim_2_s1 na nb a b i n l))), (⟨sp 86 [(2, AV.ref 0 0), (3, AV.ref 1 0), (4, AV.ref 2 0), (5, AV.own 3 0 (Int.toNat ((↑(List.length (digs (Int.natAbs a))) : Int) + (↑(List.length (digs (Int.natAbs b))) : Int))) 1), (32, AV.wd a), (33, aI (↑(List.length (digs (Int.natAbs a))) : Int)), (34, aI 0)], [Row.flat [AV.lit (Value.bool na), AV.wd a] true, Row.flat [AV.lit (Value.bool nb), AV.wd b] true, Row.flat [aF, aN] true, Row.ints (List.replicate (Int.toNat ((↑(List.length (digs (Int.natAbs a))) : Int) + (↑(List.length (digs (Int.natAbs b))) : Int))) 0) true], [3]⟩ : St) = (tim_2_s0 na nb a b n), Loops 4 Tryz.prog (lpOf Tryz.prog 107 0) (tim_2_s0 na nb a b n) (Ex.exit 0, (tim_2_s1 na nb a b i n l)), n ≤ List.length l, short64 (List.take n l)]) := by kernel_rfl
theorem timZ_0 (na nb : Bool) (a b : Int) : funA (mkCfg Tryz.prog ctr5 bw) 60 107 [.agg [.lit (.bool na), .wd a], .agg [.lit (.bool nb), .wd b]] [true] [] = some (AV.agg [aF, aN], [((↑(List.length (digs (Int.natAbs a))) : Int) == 0) = true]) := by kernel_rfl
theorem timZ_1 (na nb : Bool) (a b : Int) : funA (mkCfg Tryz.prog ctr5 bw) 60 107 [.agg [.lit (.bool na), .wd a], .agg [.lit (.bool nb), .wd b]] [false, true] [] = some (AV.agg [aF, aN], [((↑(List.length (digs (Int.natAbs a))) : Int) == 0) = false, ((↑(List.length (digs (Int.natAbs b))) : Int) == 0) = true]) := by kernel_rfl
theorem vl_set : ∀ (l : List Int) (j : Nat) (v : Int), j < l.length → vl (l.set j v) = vl l + 100000000 ^ j * (v - l.getD j 0)
  | [], j, v, h => by simp at h
  | d :: l, 0, v, h => by simp [vl]; omega
  | d :: l, j + 1, v, h => by
    have := vl_set l j v (by simpa using h)
    simp only [List.set_cons_succ, vl, this, List.getD_cons_succ, Int.pow_succ]
    rw [Int.mul_add, ← Int.mul_assoc, Int.mul_comm 100000000 (100000000 ^ j)]
    omega
theorem getD_set_ne (l : List Int) (i j : Nat) (v : Int) (h : i ≠ j) : (l.set j v).getD i 0 = l.getD i 0 := by
  simp [List.getD, List.getElem?_set_ne (Ne.symm h)]
theorem Digs_set {l : List Int} (h : Digs l) (j : Nat) {v : Int} (h0 : 0 ≤ v) (h1 : v < 100000000) : Digs (l.set j v) := by
  intro d hd
  rcases List.mem_or_eq_of_mem_set hd with hd | rfl
  · exact h d hd
  · exact ⟨h0, h1⟩
theorem mul_dig {d y : Int} (h0 : 0 ≤ d) (h1 : d < 100000000) (h2 : 0 ≤ y) (h3 : y < 100000000) : 0 ≤ d * y ∧ d * y ≤ 9999999800000001 := by
  refine ⟨Int.mul_nonneg h0 h2, ?_⟩
  have := Int.mul_le_mul (show d ≤ 99999999 by omega) (show y ≤ 99999999 by omega) h2 (by decide)
  omega

theorem timesI (na nb : Bool) (a b d : Int) (hd0 : 0 ≤ d) (hd1 : d < 100000000) (i n : Nat) (hn : n ≤ 2097152) (hin : i + (digs b.natAbs).length < n) : ∀ (r k : Nat) (l : List Int) (c : Int), k + r = (digs b.natAbs).length → Digs l → 0 ≤ c → c < 100000000 → l.length = n →
    ∃ (l2 : List Int) (c2 : Int), Digs l2 ∧ l2.length = n ∧ 0 ≤ c2 ∧ c2 < 100000000 ∧ vl l2 + 100000000 ^ (i + (digs b.natAbs).length) * c2 = vl l + 100000000 ^ (i + k) * (c + d * vl ((digs b.natAbs).drop k)) ∧
      (∀ j, i + (digs b.natAbs).length ≤ j → l2.getD j 0 = l.getD j 0) ∧
      Loops 4 Tryz.prog (lpOf Tryz.prog 107 1) (TN na nb a b i d c k n l) (.exit 2, TN na nb a b i d c2 ((digs b.natAbs).length : Int) n l2)
  | 0, k, l, c, hk, hl, hc0, hc1, hln => by
    obtain rfl : k = (digs b.natAbs).length := by omega
    refine ⟨l, c, hl, hln, hc0, hc1, ?_, fun _ _ => rfl, Loops.fin (LS.of ok5 (tiL_1 na nb a b i d c ((digs b.natAbs).length : Int) n l) (by (repeat' (first | exact AllC.nil | refine AllC.cons ?_ ?_)); all_goals (first | exact viaL_ok | ((with_reducible refine inR64.2 ?_); omega) | (with_reducible refine pFl ?_ ?_ <;> omega) | ((with_reducible refine decide_eq_true ?_); omega) | ((with_reducible refine decide_eq_false ?_); omega) | omega | (simp [] <;> omega) | assumption | rfl))) (by simp [Ex.toExit])⟩
    rw [List.drop_length]; simp [vl]
  | r + 1, k, l, c, hk, hl, hc0, hc1, hln => by
    have hnat : 0 + Int.toNat ((i : Int) + (k : Int)) * 1 = i + k := by omega
    have hkn : Int.toNat (k : Int) = k := by omega
    have hkb : k < (digs b.natAbs).length := by omega
    obtain ⟨hy0, hy1⟩ := dig_getD (Digs_digs b.natAbs) k
    obtain ⟨hx0, hx1⟩ := dig_getD hl (i + k)
    obtain ⟨hm0, hm1⟩ := mul_dig hd0 hd1 hy0 hy1
    obtain ⟨t1, t2⟩ := tdm (t := l.getD (i + k) 0 + d * (digs b.natAbs).getD k 0 + c) (by omega)
    have h := LS.of ok5 (tiL_0 na nb a b i d c k n l) (by
      rw [hnat, hkn, t1]
      generalize d * (digs b.natAbs).getD k 0 = m at *
      exact (by (repeat' (first | exact AllC.nil | refine AllC.cons ?_ ?_)); all_goals (first | exact viaL_ok | ((with_reducible refine inR64.2 ?_); omega) | (with_reducible refine pFl ?_ ?_ <;> omega) | ((with_reducible refine decide_eq_true ?_); omega) | ((with_reducible refine decide_eq_false ?_); omega) | omega | (simp [hkb, hln] <;> omega) | assumption | rfl)))
    rw [hnat, hkn, t1, t2] at h
    have hv := vl_set l (i + k) ((l.getD (i + k) 0 + d * (digs b.natAbs).getD k 0 + c) % 100000000) (by omega)
    have hdr := vl_drop (digs b.natAbs) k
    have hD : Digs (l.set (i + k) ((l.getD (i + k) 0 + d * (digs b.natAbs).getD k 0 + c) % 100000000)) := Digs_set hl _ (by omega) (by omega)
    obtain ⟨l2, c2, k1, k2, k3, k4, k5, k6, k7⟩ := timesI na nb a b d hd0 hd1 i n hn hin r (k + 1) (l.set (i + k) ((l.getD (i + k) 0 + d * (digs b.natAbs).getD k 0 + c) % 100000000)) ((l.getD (i + k) 0 + d * (digs b.natAbs).getD k 0 + c) / 100000000)
      (by omega) hD (by omega) (by omega) (by simp; omega)
    have e : ((k + 1 : Nat) : Int) = (k : Int) + 1 := by omega
    rw [e] at k7
    refine ⟨l2, c2, k1, k2, k3, k4, ?_, fun j hj => (k6 j hj).trans (getD_set_ne _ _ _ _ (by omega)), Loops.go h k7⟩
    rw [k5, hv, hdr, ← Nat.add_assoc, Int.pow_succ]
    generalize hT : l.getD (i + k) 0 + d * (digs b.natAbs).getD k 0 + c = t
    have e2 : c + d * ((digs b.natAbs).getD k 0 + 100000000 * vl ((digs b.natAbs).drop (k + 1))) = (t % 100000000 - l.getD (i + k) 0) + 100000000 * (t / 100000000 + d * vl ((digs b.natAbs).drop (k + 1))) := by
      rw [Int.mul_add d, Int.mul_left_comm d 100000000]
      generalize d * (digs b.natAbs).getD k 0 = m at *
      omega
    rw [e2, alg1, Int.add_assoc]

theorem timesO (na nb : Bool) (a b : Int) (ha : fits a) (hb : fits b) (n : Nat) (hn : n = (digs a.natAbs).length + (digs b.natAbs).length) (hb0 : 0 < (digs b.natAbs).length) : ∀ (r i : Nat) (l : List Int), i + r = (digs a.natAbs).length → Digs l → l.length = n →
    (∀ j, i + (digs b.natAbs).length ≤ j → l.getD j 0 = 0) →
    ∃ l2 : List Int, Digs l2 ∧ l2.length = n ∧ vl l2 = vl l + 100000000 ^ i * (vl ((digs a.natAbs).drop i) * (b.natAbs : Int)) ∧
      Loops 4 Tryz.prog (lpOf Tryz.prog 107 0) (TO na nb a b i n l) (.exit 0, TO na nb a b ((digs a.natAbs).length : Int) n l2)
  | 0, i, l, hi, hl, hln, hz => by
    obtain rfl : i = (digs a.natAbs).length := by omega
    refine ⟨l, hl, hln, ?_, Loops.fin (LS.of ok5 (toE_0 na nb a b ((digs a.natAbs).length : Int) n l) (by (repeat' (first | exact AllC.nil | refine AllC.cons ?_ ?_)); all_goals (first | exact viaL_ok | ((with_reducible refine inR64.2 ?_); omega) | (with_reducible refine pFl ?_ ?_ <;> omega) | ((with_reducible refine decide_eq_true ?_); omega) | ((with_reducible refine decide_eq_false ?_); omega) | omega | (simp [] <;> omega) | assumption | rfl))) (by simp [Ex.toExit])⟩
    rw [List.drop_length]; simp [vl]
  | r + 1, i, l, hi, hl, hln, hz => by
    have ha' := ha
    have hb' := hb
    unfold fits dl at ha' hb'
    have hin : Int.toNat (i : Int) = i := by omega
    have hnat : 0 + Int.toNat ((i : Int) + ((digs b.natAbs).length : Int)) * 1 = i + (digs b.natAbs).length := by omega
    have hia : i < (digs a.natAbs).length := by omega
    obtain ⟨hd0, hd1⟩ := dig_getD (Digs_digs a.natAbs) i
    obtain ⟨l2, c2, k1, k2, k3, k4, k5, k6, k7⟩ := timesI na nb a b ((digs a.natAbs).getD i 0) hd0 hd1 i n (by omega) (by omega) (digs b.natAbs).length 0 l 0 (by omega) hl (by omega) (by omega) hln
    have k7' : Loops 4 Tryz.prog (lpOf Tryz.prog 107 1) (TN na nb a b i ((digs a.natAbs).getD i 0) 0 0 n l) (.exit 2, TN na nb a b i ((digs a.natAbs).getD i 0) c2 ((digs b.natAbs).length : Int) n l2) := k7
    have h := LS.of ok5 (toL_0 na nb a b i c2 ((digs b.natAbs).length : Int) n l l2) (by
      rw [hnat, hin]
      exact (by (repeat' (first | exact AllC.nil | refine AllC.cons ?_ ?_)); all_goals (first | exact viaL_ok | ((with_reducible refine inR64.2 ?_); omega) | (with_reducible refine pFl ?_ ?_ <;> omega) | ((with_reducible refine decide_eq_true ?_); omega) | ((with_reducible refine decide_eq_false ?_); omega) | omega | (simp [hia, k2] <;> omega) | assumption | rfl)))
    rw [hnat] at h
    have hv := vl_set l2 (i + (digs b.natAbs).length) c2 (by omega)
    have h0 : l2.getD (i + (digs b.natAbs).length) 0 = 0 := by rw [k6 _ (Nat.le_refl _)]; exact hz _ (Nat.le_refl _)
    rw [h0, Int.sub_zero, k5] at hv
    obtain ⟨l4, m1, m2, m3, m4⟩ := timesO na nb a b ha hb n hn hb0 r (i + 1) (l2.set (i + (digs b.natAbs).length) c2) (by omega) (Digs_set k1 _ k3 k4) (by simp; omega) (fun j hj => by
      rw [getD_set_ne _ _ _ _ (by omega), k6 j (by omega)]; exact hz j (by omega))
    have e : ((i + 1 : Nat) : Int) = (i : Int) + 1 := by omega
    rw [e] at m4
    refine ⟨l4, m1, m2, ?_, Loops.go h m4⟩
    rw [m3, hv, vl_drop (digs a.natAbs) i, List.drop_zero, vl_digs, Int.zero_add, Nat.add_zero, Int.pow_succ, Int.add_mul, Int.mul_assoc 100000000, alg1, Int.add_assoc]

theorem times_fc (a b : Int) (h : pDD a b) : FC Tryz.prog 107 [W a, W b] (W (a * b)) := by
  obtain ⟨ha, hb⟩ := h
  have ha' := ha
  have hb' := hb
  unfold fits dl at ha' hb'
  by_cases ha0 : a = 0
  · subst ha0
    have := fc_fun ok5 (timZ_0 (decide ((0 : Int) < 0)) (decide (b < 0)) 0 b) (.cons (by simp [digs_zero]) .nil)
    exact this.res fun E v h => h.toW (b := false) (l := []) rfl rfl (by simp) (by simp [digs_zero])
  · have hna := digs_ne ha0
    by_cases hb0 : b = 0
    · subst hb0
      have := fc_fun ok5 (timZ_1 (decide (a < 0)) (decide ((0 : Int) < 0)) a 0) (.cons (by simp [hna]) (.cons (by simp [digs_zero]) .nil))
      exact this.res fun E v h => h.toW (b := false) (l := []) rfl rfl (by simp) (by simp [digs_zero])
    · have hnb := digs_ne hb0
      have hpa := dl_pos ha0
      have hpb := dl_pos hb0
      obtain ⟨N, hN⟩ : ∃ N, N = Int.toNat (((digs a.natAbs).length : Int) + ((digs b.natAbs).length : Int)) := ⟨_, rfl⟩
      have hN2 : N = (digs a.natAbs).length + (digs b.natAbs).length := by omega
      have hz0 : Digs (List.replicate N 0) := fun d hd => by
        have := List.eq_of_mem_replicate hd
        omega
      have hvz : ∀ m : Nat, vl (List.replicate m 0) = 0 := by
        intro m
        induction m with
        | zero => rfl
        | succ m ih => simp only [List.replicate_succ, vl, ih]; rfl
      obtain ⟨l2, k1, k2, k3, k4⟩ := timesO (decide (a < 0)) (decide (b < 0)) a b ha hb N hN2 hpb (digs a.natAbs).length 0 (List.replicate N 0) (by omega) hz0 (by simp) (fun j hj => by simp [List.getD, List.getElem?_replicate]; split <;> rfl)
      have k4' : Loops 4 Tryz.prog (lpOf Tryz.prog 107 0) (TO (decide (a < 0)) (decide (b < 0)) a b 0 N (List.replicate N 0)) (.exit 0, TO (decide (a < 0)) (decide (b < 0)) a b ((digs a.natAbs).length : Int) N l2) := k4
      have hst : List.take N l2 = l2 := by rw [← k2, take_all]
      have := fc_fun ok5 (tim_2 (decide (a < 0)) (decide (b < 0)) a b ((digs a.natAbs).length : Int) N l2) (by
        rw [hst, ← hN]
        exact (by (repeat' (first | exact AllC.nil | refine AllC.cons ?_ ?_)); all_goals (first | exact viaL_ok | ((with_reducible refine inR64.2 ?_); omega) | (with_reducible refine pFl ?_ ?_ <;> omega) | ((with_reducible refine decide_eq_true ?_); omega) | ((with_reducible refine decide_eq_false ?_); omega) | omega | (simp [hna, hnb, k2, short64] <;> omega) | assumption | rfl)))
      rw [hst] at this
      have hprod : vl l2 = ((a.natAbs * b.natAbs : Nat) : Int) := by
        rw [k3, hvz, List.drop_zero, vl_digs, Int.pow_zero, Int.one_mul, Int.zero_add]; simp
      refine this.res fun E v h => h.toW (b := (!(decide (a < 0) == decide (b < 0)))) rfl rfl ?_ ?_
      · rcases Int.lt_or_gt_of_ne ha0 with h1 | h1 <;> rcases Int.lt_or_gt_of_ne hb0 with h2 | h2
        · have := Int.mul_pos_of_neg_of_neg h1 h2
          simp [h1, h2]; omega
        · have := Int.mul_neg_of_neg_of_pos h1 h2
          have h3 : ¬ b < 0 := by omega
          simp [h1, h3, this]
        · have := Int.mul_neg_of_pos_of_neg h1 h2
          have h3 : ¬ a < 0 := by omega
          simp [h2, h3, this]
        · have := Int.mul_pos h1 h2
          have h3 : ¬ a < 0 := by omega
          have h4 : ¬ b < 0 := by omega
          simp [h3, h4]; omega
      · rw [trm_digs k1, hprod, Int.toNat_natCast, Int.natAbs_mul]

def ctr6 : Ctr := (107, c2 pDD (fun a b => W (a * b))) :: ctr5
theorem ctr6_all : ∀ p ∈ ctr6, CtrOK Tryz.prog p.1 p.2 := CAll.cons (c2_ok times_fc) ctr5_all
theorem ok6 : (mkCfg Tryz.prog ctr6 bw).OK := cfg_ok ctr6_all

end Go.Proofs.YtloaeinogiplbaaGreatDoor
end

section
open Go Go.Ev
namespace Go.Proofs.YtloaeinogiplbaaGreatDoor
open Go.Proofs
def cLI (p : List Int → Int → Prop) (r : List Int → Int → AV) (args : List AV) : M AV := match args with
  | [x, .lit (.int .i64 n)] => do
    let l ← ofOpt 217 (ints? x)
    tell (p l n)
    M.pure (r l n)
  | _ => fail 218
theorem cLI_ok {P : Program} {f : FuncId} {p : List Int → Int → Prop} {r : List Int → Int → AV} (h : ∀ l n, p l n → FC P f [.sq l, .lit (.int .i64 n)] (r l n)) : CtrOK P f (cLI p r) := by
  intro args _
  unfold cLI
  split
  · exact Spec.bind (Spec.ofOpt fun l hl => Spec.bind (Spec.tell fun hp => Spec.pure' ((h l _ hp).arg2 (fun E v hv => hv.toSq hl) (fun E v hv => hv))))
  · exact Spec.fail
abbrev SH (l : List Int) (n r i : Int) (m : Nat) (out : List Int) : St := ⟨sp 38 [(0, .sq l), (1, .lit (.int .i64 n)), (6, .own 0 0 m 1), (7, .lit (.int .i64 r)), (8, .lit (.int .i64 i))], [.ints out true], [0]⟩
end Go.Proofs.YtloaeinogiplbaaGreatDoor
end

section
open Go Go.Ev Go.RowKit
namespace Go.Proofs.YtloaeinogiplbaaGreatDoor
open Go.Proofs
set_option maxRecDepth 100000
set_option maxHeartbeats 1000000
set_option linter.unusedVariables false
set_option linter.unusedSimpArgs false


theorem shL_0 (l : List Int) (n r i : Int) (m : Nat) (out : List Int) : rndA (mkCfg Tryz.prog ctr6 bw) 60 (lpOf Tryz.prog 175 0) 1 [] [0, 1, 6, 7, 8] [0] (SH l n r i m out) [true] [] = some (Ex.normal, ⟨sp 38 [(0, AV.sq l), (1, aI n), (6, AV.own 0 0 m 1), (7, aI (Int.tmod (r * 100000000 + List.getD l (Int.toNat i) 0) n)), (8, aI (i - 1))], [Row.ints (List.set out (0 + Int.toNat i * 1) (Int.tdiv (r * 100000000 + List.getD l (Int.toNat i) 0) n)) true], [0]⟩, [decide (i ≥ 0) = true, inR IntKind.i64 (r * 100000000) = true, decide (0 ≤ i) = true, decide (i < (↑(List.length l) : Int)) = true, decide (Int.toNat i < List.length l) = true, inR IntKind.i64 (r * 100000000 + List.getD l (Int.toNat i) 0) = true, (!decide (n = 0)) = true, inR IntKind.i64 (Int.tdiv (r * 100000000 + List.getD l (Int.toNat i) 0) n) = true, (!decide (n = 0)) = true, decide (0 ≤ i) = true, decide (i < (↑m : Int)) = true, decide (0 + Int.toNat i * 1 < List.length out) = true, inR IntKind.i64 (i - 1) = true]) := by kernel_rfl
theorem shL_1 (l : List Int) (n r i : Int) (m : Nat) (out : List Int) : rndA (mkCfg Tryz.prog ctr6 bw) 60 (lpOf Tryz.prog 175 0) 1 [] [0, 1, 6, 7, 8] [0] (SH l n r i m out) [false] [] = some (Ex.exit 0, ⟨sp 38 [(0, AV.sq l), (1, aI n), (6, AV.own 0 0 m 1), (7, aI r), (8, aI i)], [Row.ints out true], [0]⟩, [decide (i ≥ 0) = false]) := by kernel_rfl
theorem sh_0 (l : List Int) (n r i : Int) (m : Nat) (out : List Int) : funA (mkCfg Tryz.prog ctr6 bw) 60 175 [.sq l, .lit (.int .i64 n)] [] [some (viaL Tryz.prog (lpOf Tryz.prog 175 0) [] [0,1,6,7,8] [0] (SH l n 0 ((l.length : Int) - 1) m (List.replicate m 0)) (.exit 0, SH l n r i m out))] = some (AV.tup [AV.sq (trm (List.take m out)), aI r], [decide (0 ≤ (↑(List.length l) : Int)) = true, decide ((↑(List.length l) : Int) ≤ (↑(List.length l) : Int)) = true, decide (8 * (↑(List.length l) : Int) ≤ 281474976710656) = true, decide ((↑(List.length l) : Int) ≤ 9223372036854775807) = true, inR IntKind.i64 ((↑(List.length l) : Int) - 1) = true, LoopOK Tryz.prog (lpOf Tryz.prog 175 0) (viaL Tryz.prog (lpOf Tryz.prog 175 0) [] [0, 1, 6, 7, 8] [0] ⟨sp 38 [(0, AV.sq l), (1, aI n), (6, AV.own 0 0 m 1), (7, aI 0), (8, aI ((↑(List.length l) : Int) - 1))], [Row.ints (List.replicate m 0) true], [0]⟩ (Ex.exit 0, ⟨sp 38 [(0, AV.sq l), (1, aI n), (6, AV.own 0 0 m 1), (7, aI r), (8, aI i)], [Row.ints out true], [0]⟩)), (⟨sp 38 [(0, AV.sq l), (1, aI n), (6, AV.own 0 0 (Int.toNat (↑(List.length l) : Int)) 1), (7, aI 0), (8, aI ((↑(List.length l) : Int) - 1))], [Row.ints (List.replicate (Int.toNat (↑(List.length l) : Int)) 0) true], [0]⟩ : St) = ⟨sp 38 [(0, AV.sq l), (1, aI n), (6, AV.own 0 0 m 1), (7, aI 0), (8, aI ((↑(List.length l) : Int) - 1))], [Row.ints (List.replicate m 0) true], [0]⟩, Loops 1 Tryz.prog (lpOf Tryz.prog 175 0) ⟨sp 38 [(0, AV.sq l), (1, aI n), (6, AV.own 0 0 m 1), (7, aI 0), (8, aI ((↑(List.length l) : Int) - 1))], [Row.ints (List.replicate m 0) true], [0]⟩ (Ex.exit 0, ⟨sp 38 [(0, AV.sq l), (1, aI n), (6, AV.own 0 0 m 1), (7, aI r), (8, aI i)], [Row.ints out true], [0]⟩), m ≤ List.length out, short64 (List.take m out)]) := by kernel_rfl
theorem tdn {t n : Int} (h : 0 ≤ t) (hn : 0 < n) : Int.tdiv t n = t / n ∧ Int.tmod t n = t % n :=
  ⟨Int.tdiv_eq_ediv_of_nonneg h, Int.tmod_eq_emod_of_nonneg h⟩
theorem drop_set_succ (l : List Int) (k : Nat) (v : Int) : (l.set k v).drop (k + 1) = l.drop (k + 1) := by
  apply List.ext_getElem?
  intro i
  rw [List.getElem?_drop, List.getElem?_drop, List.getElem?_set_ne (by omega)]
theorem getD_set_self (l : List Int) (k : Nat) (v : Int) (h : k < l.length) : (l.set k v).getD k 0 = v := by simp [List.getD, h]

theorem shortL (l : List Int) (n : Int) (hn : 0 < n) (hnB : n ≤ 100000000) (hl : Digs l) (hll : l.length ≤ 4194304) : ∀ (k : Nat) (r : Int) (out : List Int), k ≤ l.length → out.length = l.length → 0 ≤ r → r < n → Digs out → vl (out.drop k) * n + r = vl (l.drop k) →
    ∃ (r2 : Int) (out2 : List Int), out2.length = l.length ∧ 0 ≤ r2 ∧ r2 < n ∧ Digs out2 ∧ vl out2 * n + r2 = vl l ∧
      Loops 1 Tryz.prog (lpOf Tryz.prog 175 0) (SH l n r ((k : Int) - 1) l.length out) (.exit 0, SH l n r2 (-1) l.length out2)
  | 0, r, out, hk, ho, h0, h1, hd, hv => by
    rw [List.drop_zero, List.drop_zero] at hv
    exact ⟨r, out, ho, h0, h1, hd, hv, Loops.fin (LS.of ok6 (shL_1 l n r (-1) l.length out) (by (repeat' (first | exact AllC.nil | refine AllC.cons ?_ ?_)); all_goals (first | exact viaL_ok | ((with_reducible refine inR64.2 ?_); omega) | (with_reducible refine pFl ?_ ?_ <;> omega) | ((with_reducible refine decide_eq_true ?_); omega) | ((with_reducible refine decide_eq_false ?_); omega) | omega | (simp [] <;> omega) | assumption | rfl))) (by simp [Ex.toExit])⟩
  | k + 1, r, out, hk, ho, h0, h1, hd, hv => by
    have hnat : 0 + Int.toNat (((k + 1 : Nat) : Int) - 1) * 1 = k := by omega
    have hnat2 : Int.toNat (((k + 1 : Nat) : Int) - 1) = k := by omega
    have hx := dig_getD hl k
    have hkl : k < l.length := by omega
    obtain ⟨t1, t2⟩ := tdn (t := r * 100000000 + l.getD k 0) (n := n) (by omega) hn
    have hq0 : 0 ≤ (r * 100000000 + l.getD k 0) / n := Int.ediv_nonneg (by omega) (by omega)
    have hq1 : (r * 100000000 + l.getD k 0) / n < 100000000 := Int.ediv_lt_of_lt_mul hn (by omega)
    have hr0 : 0 ≤ (r * 100000000 + l.getD k 0) % n := Int.emod_nonneg _ (by omega)
    have hr1 : (r * 100000000 + l.getD k 0) % n < n := Int.emod_lt_of_pos _ hn
    have hdm := Int.mul_ediv_add_emod (r * 100000000 + l.getD k 0) n
    have hn0 : (!decide (n = 0)) = true := by simp; omega
    have h := LS.of ok6 (shL_0 l n r (((k + 1 : Nat) : Int) - 1) l.length out) (by
      rw [hnat, hnat2, t1]
      exact (by (repeat' (first | exact AllC.nil | refine AllC.cons ?_ ?_)); all_goals (first | exact viaL_ok | ((with_reducible refine inR64.2 ?_); omega) | (with_reducible refine pFl ?_ ?_ <;> omega) | ((with_reducible refine decide_eq_true ?_); omega) | ((with_reducible refine decide_eq_false ?_); omega) | omega | (simp [ho] <;> omega) | assumption | rfl)))
    rw [hnat, hnat2, t1, t2] at h
    have e : ((k + 1 : Nat) : Int) - 1 - 1 = (k : Int) - 1 := by omega
    rw [e] at h
    have hv2 : vl ((out.set k ((r * 100000000 + l.getD k 0) / n)).drop k) * n + (r * 100000000 + l.getD k 0) % n = vl (l.drop k) := by
      rw [vl_drop (out.set k _) k, drop_set_succ, getD_set_self _ _ _ (by omega), vl_drop l k, ← hv, Int.add_mul, Int.mul_assoc]
      rw [Int.mul_comm n] at hdm
      omega
    obtain ⟨r2, out2, k1, k2, k3, k4, k5, k6⟩ := shortL l n hn hnB hl hll k _ _ (by omega) (by simp; omega) hr0 hr1 (Digs_set hd _ hq0 hq1) hv2
    exact ⟨r2, out2, k1, k2, k3, k4, k5, Loops.go h k6⟩

theorem Rd_lit_eq {E : Env} {a b : Value} {v : Value} (h : a = b) (hr : Rd E (.lit a) v) : Rd E (.lit b) v := h ▸ hr

def pShort (l : List Int) (n : Int) : Prop := Digs l ∧ l.length ≤ 4194304 ∧ 0 < n ∧ n ≤ 100000000
theorem short_fc (l : List Int) (n : Int) (h : pShort l n) : FC Tryz.prog 175 [.sq l, .lit (.int .i64 n)] (.tup [.wd (vl l / n), .lit (.int .i64 (vl l % n))]) := by
  obtain ⟨hl, hll, hn, hnB⟩ := h
  have hz0 : Digs (List.replicate l.length 0) := fun d hd => by
    have := List.eq_of_mem_replicate hd
    omega
  obtain ⟨r2, out2, k1, k2, k3, k4, k5, k6⟩ := shortL l n hn hnB hl hll l.length 0 (List.replicate l.length 0) (Nat.le_refl _) (by simp) (Int.le_refl _) hn hz0 (by
    rw [List.drop_length, List.drop_eq_nil_of_le (by simp)]; simp [vl])
  have e : List.take l.length out2 = out2 := by rw [← k1, take_all]
  have := fc_fun ok6 (sh_0 l n r2 (-1) l.length out2) (by
    rw [e]
    simp only [Int.toNat_natCast]
    exact (by (repeat' (first | exact AllC.nil | refine AllC.cons ?_ ?_)); all_goals (first | exact viaL_ok | ((with_reducible refine inR64.2 ?_); omega) | (with_reducible refine pFl ?_ ?_ <;> omega) | ((with_reducible refine decide_eq_true ?_); omega) | ((with_reducible refine decide_eq_false ?_); omega) | omega | (simp [k1, short64] <;> omega) | assumption | rfl)))
  rw [e] at this
  have hq : vl l / n = vl out2 := by
    rw [← k5, Int.mul_comm, Int.add_comm, Int.add_mul_ediv_left _ _ (by omega), Int.ediv_eq_zero_of_lt k2 k3, Int.zero_add]
  have hr : vl l % n = r2 := by
    rw [← k5, Int.mul_comm, Int.add_comm, Int.add_mul_emod_self_left, Int.emod_eq_of_lt k2 k3]
  have hv0 := vl_nonneg k4
  refine this.res fun E v hv => hv.tup2 (fun u hu => hu.toWd rfl ?_) (fun u hu => Rd_lit_eq (by rw [hr]) hu)
  rw [trm_digs k4, hq]
  congr 1
  omega

def ctr7 : Ctr := (175, cLI pShort (fun l n => .tup [.wd (vl l / n), .lit (.int .i64 (vl l % n))])) :: ctr6
theorem ctr7_all : ∀ p ∈ ctr7, CtrOK Tryz.prog p.1 p.2 := CAll.cons (cLI_ok short_fc) ctr6_all
theorem ok7 : (mkCfg Tryz.prog ctr7 bw).OK := cfg_ok ctr7_all

end Go.Proofs.YtloaeinogiplbaaGreatDoor
end

section
open Go Go.Ev
namespace Go.Proofs.YtloaeinogiplbaaGreatDoor
open Go.Proofs
def dmy : LoopFn := fun _ => none
/-- trimmed on the run's own digits, within times -/
abbrev TW (na nb : Bool) (a b : Int) (n : Nat) (l : List Int) : St := ⟨sp 21 [(0, .own 3 0 n 1)], [.flat [.lit (.bool na), .wd a] true, .flat [.lit (.bool nb), .wd b] true, .flat [.lit (.bool false), .lit (.slice none 0 0)] true, .ints l true], []⟩
abbrev rwL (a f : Int) (n2 : Nat) (u out : List Int) : List Row := [.flat [.lit (.bool false), .wd a] true, .flat [.lit (.bool (decide (f < 0))), .wd f] true, .flat [.lit (.bool (!(false == decide (f < 0)))), .own 3 0 n2 1] true, .dead, .ints [0, 0] true, .ints u true, .ints out true]
/-- the main loop of long -/
abbrev LO (a f : Int) (n2 : Nat) (V : Int) (L J : Nat) (j : Int) (u out : List Int) : St := ⟨sp 182 [(6, .lit (.int .i64 f)), (7, .own 5 0 L 1), (8, .wd V), (9, .lit (.int .i64 ((digs V.natAbs).length : Int))), (10, .own 6 0 J 1), (11, .lit (.int .i64 j))], rwL a f n2 u out, [2, 3, 4, 5, 6]⟩
abbrev LSb (a f : Int) (n2 : Nat) (V : Int) (L J : Nat) (j g c i : Int) (u out : List Int) : St := ⟨sp 182 [(6, .lit (.int .i64 f)), (7, .own 5 0 L 1), (8, .wd V), (9, .lit (.int .i64 ((digs V.natAbs).length : Int))), (10, .own 6 0 J 1), (11, .lit (.int .i64 j)), (12, .lit (.int .i64 g)), (13, .lit (.int .i64 c)), (81, .lit (.int .i64 ((digs V.natAbs).length : Int))), (82, .lit (.int .i64 i))], rwL a f n2 u out, [2, 3, 4, 5, 6]⟩
abbrev LC (a f : Int) (n2 : Nat) (V : Int) (L J : Nat) (j g : Int) (u out : List Int) : St := ⟨sp 182 [(6, .lit (.int .i64 f)), (7, .own 5 0 L 1), (8, .wd V), (9, .lit (.int .i64 ((digs V.natAbs).length : Int))), (10, .own 6 0 J 1), (11, .lit (.int .i64 j)), (12, .lit (.int .i64 g))], rwL a f n2 u out, [2, 3, 4, 5, 6]⟩
abbrev LA (a f : Int) (n2 : Nat) (V : Int) (L J : Nat) (j g c i : Int) (u out : List Int) : St := ⟨sp 182 [(6, .lit (.int .i64 f)), (7, .own 5 0 L 1), (8, .wd V), (9, .lit (.int .i64 ((digs V.natAbs).length : Int))), (10, .own 6 0 J 1), (11, .lit (.int .i64 j)), (12, .lit (.int .i64 g)), (13, .lit (.int .i64 c)), (130, .lit (.int .i64 ((digs V.natAbs).length : Int))), (131, .lit (.int .i64 i))], rwL a f n2 u out, [2, 3, 4, 5, 6]⟩
end Go.Proofs.YtloaeinogiplbaaGreatDoor
end

section
open Go Go.Ev Go.RowKit
namespace Go.Proofs.YtloaeinogiplbaaGreatDoor
open Go.Proofs
set_option maxRecDepth 100000
set_option maxHeartbeats 1000000
set_option linter.unusedVariables false
set_option linter.unusedSimpArgs false


theorem loS_0 (a f : Int) (n2 : Nat) (V : Int) (L J : Nat) (j g c i : Int) (u out : List Int) : rndA (mkCfg Tryz.prog ctr7 bw [107, 150]) 60 (lpOf Tryz.prog 176 1) 7 [] [6, 7, 8, 9, 10, 11, 12, 13, 81, 82] [2, 3, 4, 5, 6] (LSb a f n2 V L J j g c i u out) [true] [] = some (Ex.normal, ⟨sp 182 [(6, aI f), (7, AV.own 5 0 L 1), (8, AV.wd V), (9, aI (↑(List.length (digs (Int.natAbs V))) : Int)), (10, AV.own 6 0 J 1), (11, aI j), (12, aI g), (13, aI ((List.getD u (0 + Int.toNat (i + j) * 1) 0 - g * List.getD (digs (Int.natAbs V)) (Int.toNat i) 0 + c) / 100000000)), (81, aI (↑(List.length (digs (Int.natAbs V))) : Int)), (82, aI (i + 1))], [Row.flat [aF, AV.wd a] true, Row.flat [aD f, AV.wd f] true, Row.flat [AV.lit (Value.bool (!(false == decide (f < 0)))), AV.own 3 0 n2 1] true, Row.dead, Row.ints [0, 0] true, Row.ints (List.set u (0 + Int.toNat (i + j) * 1) ((List.getD u (0 + Int.toNat (i + j) * 1) 0 - g * List.getD (digs (Int.natAbs V)) (Int.toNat i) 0 + c) % 100000000)) true, Row.ints out true], [2, 3, 4, 5, 6]⟩, [decide (i < (↑(List.length (digs (Int.natAbs V))) : Int)) = true, inR IntKind.i64 (i + j) = true, decide (0 ≤ i + j) = true, decide (i + j < (↑L : Int)) = true, decide (0 + Int.toNat (i + j) * 1 < List.length u) = true, decide (0 ≤ i) = true, decide (i < (↑(List.length (digs (Int.natAbs V))) : Int)) = true, decide (Int.toNat i < List.length (digs (Int.natAbs V))) = true, inR IntKind.i64 (g * List.getD (digs (Int.natAbs V)) (Int.toNat i) 0) = true, inR IntKind.i64 (List.getD u (0 + Int.toNat (i + j) * 1) 0 - g * List.getD (digs (Int.natAbs V)) (Int.toNat i) 0) = true, inR IntKind.i64 (List.getD u (0 + Int.toNat (i + j) * 1) 0 - g * List.getD (digs (Int.natAbs V)) (Int.toNat i) 0 + c) = true, pFloored (List.getD u (0 + Int.toNat (i + j) * 1) 0 - g * List.getD (digs (Int.natAbs V)) (Int.toNat i) 0 + c), inR IntKind.i64 (i + j) = true, decide (0 ≤ i + j) = true, decide (i + j < (↑L : Int)) = true, decide (0 + Int.toNat (i + j) * 1 < List.length u) = true, inR IntKind.i64 (i + 1) = true]) := by kernel_rfl
theorem loS_1 (a f : Int) (n2 : Nat) (V : Int) (L J : Nat) (j g c i : Int) (u out : List Int) : rndA (mkCfg Tryz.prog ctr7 bw [107, 150]) 60 (lpOf Tryz.prog 176 1) 7 [] [6, 7, 8, 9, 10, 11, 12, 13, 81, 82] [2, 3, 4, 5, 6] (LSb a f n2 V L J j g c i u out) [false] [] = some (Ex.exit 2, ⟨sp 182 [(6, aI f), (7, AV.own 5 0 L 1), (8, AV.wd V), (9, aI (↑(List.length (digs (Int.natAbs V))) : Int)), (10, AV.own 6 0 J 1), (11, aI j), (12, aI g), (13, aI c), (81, aI (↑(List.length (digs (Int.natAbs V))) : Int)), (82, aI i)], [Row.flat [aF, AV.wd a] true, Row.flat [aD f, AV.wd f] true, Row.flat [AV.lit (Value.bool (!(false == decide (f < 0)))), AV.own 3 0 n2 1] true, Row.dead, Row.ints [0, 0] true, Row.ints u true, Row.ints out true], [2, 3, 4, 5, 6]⟩, [decide (i < (↑(List.length (digs (Int.natAbs V))) : Int)) = false]) := by kernel_rfl
theorem loA_0 (a f : Int) (n2 : Nat) (V : Int) (L J : Nat) (j g c i : Int) (u out : List Int) : rndA (mkCfg Tryz.prog ctr7 bw [107, 150]) 60 (lpOf Tryz.prog 176 3) 7 [] [6, 7, 8, 9, 10, 11, 12, 13, 130, 131] [2, 3, 4, 5, 6] (LA a f n2 V L J j g c i u out) [true] [] = some (Ex.normal, ⟨sp 182 [(6, aI f), (7, AV.own 5 0 L 1), (8, AV.wd V), (9, aI (↑(List.length (digs (Int.natAbs V))) : Int)), (10, AV.own 6 0 J 1), (11, aI j), (12, aI g), (13, aI ((List.getD u (0 + Int.toNat (i + j) * 1) 0 + List.getD (digs (Int.natAbs V)) (Int.toNat i) 0 + c) / 100000000)), (130, aI (↑(List.length (digs (Int.natAbs V))) : Int)), (131, aI (i + 1))], [Row.flat [aF, AV.wd a] true, Row.flat [aD f, AV.wd f] true, Row.flat [AV.lit (Value.bool (!(false == decide (f < 0)))), AV.own 3 0 n2 1] true, Row.dead, Row.ints [0, 0] true, Row.ints (List.set u (0 + Int.toNat (i + j) * 1) ((List.getD u (0 + Int.toNat (i + j) * 1) 0 + List.getD (digs (Int.natAbs V)) (Int.toNat i) 0 + c) % 100000000)) true, Row.ints out true], [2, 3, 4, 5, 6]⟩, [decide (i < (↑(List.length (digs (Int.natAbs V))) : Int)) = true, inR IntKind.i64 (i + j) = true, decide (0 ≤ i + j) = true, decide (i + j < (↑L : Int)) = true, decide (0 + Int.toNat (i + j) * 1 < List.length u) = true, decide (0 ≤ i) = true, decide (i < (↑(List.length (digs (Int.natAbs V))) : Int)) = true, decide (Int.toNat i < List.length (digs (Int.natAbs V))) = true, inR IntKind.i64 (List.getD u (0 + Int.toNat (i + j) * 1) 0 + List.getD (digs (Int.natAbs V)) (Int.toNat i) 0) = true, inR IntKind.i64 (List.getD u (0 + Int.toNat (i + j) * 1) 0 + List.getD (digs (Int.natAbs V)) (Int.toNat i) 0 + c) = true, pFloored (List.getD u (0 + Int.toNat (i + j) * 1) 0 + List.getD (digs (Int.natAbs V)) (Int.toNat i) 0 + c), inR IntKind.i64 (i + j) = true, decide (0 ≤ i + j) = true, decide (i + j < (↑L : Int)) = true, decide (0 + Int.toNat (i + j) * 1 < List.length u) = true, inR IntKind.i64 (i + 1) = true]) := by kernel_rfl
theorem loA_1 (a f : Int) (n2 : Nat) (V : Int) (L J : Nat) (j g c i : Int) (u out : List Int) : rndA (mkCfg Tryz.prog ctr7 bw [107, 150]) 60 (lpOf Tryz.prog 176 3) 7 [] [6, 7, 8, 9, 10, 11, 12, 13, 130, 131] [2, 3, 4, 5, 6] (LA a f n2 V L J j g c i u out) [false] [] = some (Ex.exit 6, ⟨sp 182 [(6, aI f), (7, AV.own 5 0 L 1), (8, AV.wd V), (9, aI (↑(List.length (digs (Int.natAbs V))) : Int)), (10, AV.own 6 0 J 1), (11, aI j), (12, aI g), (13, aI c), (130, aI (↑(List.length (digs (Int.natAbs V))) : Int)), (131, aI i)], [Row.flat [aF, AV.wd a] true, Row.flat [aD f, AV.wd f] true, Row.flat [AV.lit (Value.bool (!(false == decide (f < 0)))), AV.own 3 0 n2 1] true, Row.dead, Row.ints [0, 0] true, Row.ints u true, Row.ints out true], [2, 3, 4, 5, 6]⟩, [decide (i < (↑(List.length (digs (Int.natAbs V))) : Int)) = false]) := by kernel_rfl
abbrev loC_0_s0 (a : Int) (f : Int) (n2 : Nat) (V : Int) (L : Nat) (J : Nat) (j : Int) (g : Int) (c : Int) (i : Int) (u2 : List Int) (out : List Int) : St := ⟨sp 182 [(6, aI f), (7, AV.own 5 0 L 1), (8, AV.wd V), (9, aI (↑(List.length (digs (Int.natAbs V))) : Int)), (10, AV.own 6 0 J 1), (11, aI j), (12, aI (g - 1)), (13, aI c), (130, aI (↑(List.length (digs (Int.natAbs V))) : Int)), (131, aI i)], [Row.flat [aF, AV.wd a] true, Row.flat [aD f, AV.wd f] true, Row.flat [AV.lit (Value.bool (!(false == decide (f < 0)))), AV.own 3 0 n2 1] true, Row.dead, Row.ints [0, 0] true, Row.ints u2 true, Row.ints out true], [2, 3, 4, 5, 6]⟩
abbrev loC_0_s1 (a : Int) (f : Int) (n2 : Nat) (V : Int) (L : Nat) (J : Nat) (j : Int) (g : Int) (u : List Int) (out : List Int) : St := ⟨sp 182 [(6, aI f), (7, AV.own 5 0 L 1), (8, AV.wd V), (9, aI (↑(List.length (digs (Int.natAbs V))) : Int)), (10, AV.own 6 0 J 1), (11, aI j), (12, aI (g - 1)), (13, aI 0), (130, aI (↑(List.length (digs (Int.natAbs V))) : Int)), (131, aI 0)], [Row.flat [aF, AV.wd a] true, Row.flat [aD f, AV.wd f] true, Row.flat [AV.lit (Value.bool (!(false == decide (f < 0)))), AV.own 3 0 n2 1] true, Row.dead, Row.ints [0, 0] true, Row.ints u true, Row.ints out true], [2, 3, 4, 5, 6]⟩
theorem loC_0 (a f : Int) (n2 : Nat) (V : Int) (L J : Nat) (j g c i : Int) (u u2 out : List Int) : rndA (mkCfg Tryz.prog ctr7 bw [107, 150]) 60 (lpOf Tryz.prog 176 2) 7 [] [6, 7, 8, 9, 10, 11, 12] [2, 3, 4, 5, 6] (LC a f n2 V L J j g u out) [true] [some (viaL Tryz.prog (lpOf Tryz.prog 176 3) [] [6,7,8,9,10,11,12,13,130,131] [2,3,4,5,6] (LA a f n2 V L J j (g - 1) 0 0 u out) (.exit 6, LA a f n2 V L J j (g - 1) c i u2 out))] = some (Ex.normal, ⟨sp 182 [(6, aI f), (7, AV.own 5 0 L 1), (8, AV.wd V), (9, aI (↑(List.length (digs (Int.natAbs V))) : Int)), (10, AV.own 6 0 J 1), (11, aI j), (12, aI (g - 1))], [Row.flat [aF, AV.wd a] true, Row.flat [aD f, AV.wd f] true, Row.flat [AV.lit (Value.bool (!(false == decide (f < 0)))), AV.own 3 0 n2 1] true, Row.dead, Row.ints [0, 0] true, Row.ints (List.set u2 (0 + Int.toNat (j + (↑(List.length (digs (Int.natAbs V))) : Int)) * 1) (List.getD u2 (0 + Int.toNat (j + (↑(List.length (digs (Int.natAbs V))) : Int)) * 1) 0 + c)) true, Row.ints out true], [2, 3, 4, 5, 6]⟩, [inR IntKind.i64 (j + (↑(List.length (digs (Int.natAbs V))) : Int)) = true, decide (0 ≤ j + (↑(List.length (digs (Int.natAbs V))) : Int)) = true, decide (j + (↑(List.length (digs (Int.natAbs V))) : Int) < (↑L : Int)) = true, decide (0 + Int.toNat (j + (↑(List.length (digs (Int.natAbs V))) : Int)) * 1 < List.length u) = true, decide (List.getD u (0 + Int.toNat (j + (↑(List.length (digs (Int.natAbs V))) : Int)) * 1) 0 < 0) = true, inR IntKind.i64 (g - 1) = true, LoopOK Tryz.prog (lpOf Tryz.prog 176 3) (viaL Tryz.prog (lpOf Tryz.prog 176 3) [] [6, 7, 8, 9, 10, 11, 12, 13, 130, 131] [2, 3, 4, 5, 6] (loC_0_s1 a f n2 V L J j g u out) (Ex.exit 6, (loC_0_s0 a f n2 V L J j g c i u2 out))), (loC_0_s1 a f n2 V L J j g u out) = (loC_0_s1 a f n2 V L J j g u out), Loops 7 Tryz.prog (lpOf Tryz.prog 176 3) (loC_0_s1 a f n2 V L J j g u out) (Ex.exit 6, (loC_0_s0 a f n2 V L J j g c i u2 out)), inR IntKind.i64 (j + (↑(List.length (digs (Int.natAbs V))) : Int)) = true, decide (0 ≤ j + (↑(List.length (digs (Int.natAbs V))) : Int)) = true, decide (j + (↑(List.length (digs (Int.natAbs V))) : Int) < (↑L : Int)) = true, decide (0 + Int.toNat (j + (↑(List.length (digs (Int.natAbs V))) : Int)) * 1 < List.length u2) = true, inR IntKind.i64 (List.getD u2 (0 + Int.toNat (j + (↑(List.length (digs (Int.natAbs V))) : Int)) * 1) 0 + c) = true, decide (0 ≤ j + (↑(List.length (digs (Int.natAbs V))) : Int)) = true, decide (j + (↑(List.length (digs (Int.natAbs V))) : Int) < (↑L : Int)) = true, decide (0 + Int.toNat (j + (↑(List.length (digs (Int.natAbs V))) : Int)) * 1 < List.length u2) = true]) := by kernel_rfl
theorem loD_0 (a f : Int) (n2 : Nat) (V : Int) (L J : Nat) (j g : Int) (u out : List Int) : rndA (mkCfg Tryz.prog ctr7 bw [107, 150]) 60 (lpOf Tryz.prog 176 2) 7 [] [6, 7, 8, 9, 10, 11, 12] [2, 3, 4, 5, 6] (LC a f n2 V L J j g u out) [false] [] = some (Ex.exit 4, ⟨sp 182 [(6, aI f), (7, AV.own 5 0 L 1), (8, AV.wd V), (9, aI (↑(List.length (digs (Int.natAbs V))) : Int)), (10, AV.own 6 0 J 1), (11, aI j), (12, aI g)], [Row.flat [aF, AV.wd a] true, Row.flat [aD f, AV.wd f] true, Row.flat [AV.lit (Value.bool (!(false == decide (f < 0)))), AV.own 3 0 n2 1] true, Row.dead, Row.ints [0, 0] true, Row.ints u true, Row.ints out true], [2, 3, 4, 5, 6]⟩, [inR IntKind.i64 (j + (↑(List.length (digs (Int.natAbs V))) : Int)) = true, decide (0 ≤ j + (↑(List.length (digs (Int.natAbs V))) : Int)) = true, decide (j + (↑(List.length (digs (Int.natAbs V))) : Int) < (↑L : Int)) = true, decide (0 + Int.toNat (j + (↑(List.length (digs (Int.natAbs V))) : Int)) * 1 < List.length u) = true, decide (List.getD u (0 + Int.toNat (j + (↑(List.length (digs (Int.natAbs V))) : Int)) * 1) 0 < 0) = false]) := by kernel_rfl
theorem loM_0 (a f : Int) (n2 : Nat) (V : Int) (L J : Nat) (j g g2 c i : Int) (u u2 u3 out : List Int) : rndA (mkCfg Tryz.prog ctr7 bw [107, 150]) 60 (lpOf Tryz.prog 176 0) 7 [] [6, 7, 8, 9, 10, 11] [2, 3, 4, 5, 6] (LO a f n2 V L J j u out) [true] [some (viaL Tryz.prog (lpOf Tryz.prog 176 1) [] [6,7,8,9,10,11,12,13,81,82] [2,3,4,5,6] (LSb a f n2 V L J j g 0 0 u out) (.exit 2, LSb a f n2 V L J j g c i u2 out)), some (viaL Tryz.prog (lpOf Tryz.prog 176 2) [] [6,7,8,9,10,11,12] [2,3,4,5,6] (LC a f n2 V L J j g (u2.set (j.toNat + (digs V.natAbs).length) (u2.getD (j.toNat + (digs V.natAbs).length) 0 + c)) out) (.exit 4, LC a f n2 V L J j g2 u3 out))] = some (Ex.normal, ⟨sp 182 [(6, aI f), (7, AV.own 5 0 L 1), (8, AV.wd V), (9, aI (↑(List.length (digs (Int.natAbs V))) : Int)), (10, AV.own 6 0 J 1), (11, aI (j - 1))], [Row.flat [aF, AV.wd a] true, Row.flat [aD f, AV.wd f] true, Row.flat [AV.lit (Value.bool (!(false == decide (f < 0)))), AV.own 3 0 n2 1] true, Row.dead, Row.ints [0, 0] true, Row.ints u3 true, Row.ints (List.set out (0 + Int.toNat j * 1) g2) true], [2, 3, 4, 5, 6]⟩, [decide (j ≥ 0) = true, inR IntKind.i64 (j + (↑(List.length (digs (Int.natAbs V))) : Int)) = true, decide (0 ≤ j + (↑(List.length (digs (Int.natAbs V))) : Int)) = true, decide (j + (↑(List.length (digs (Int.natAbs V))) : Int) < (↑L : Int)) = true, decide (0 + Int.toNat (j + (↑(List.length (digs (Int.natAbs V))) : Int)) * 1 < List.length u) = true, inR IntKind.i64 (List.getD u (0 + Int.toNat (j + (↑(List.length (digs (Int.natAbs V))) : Int)) * 1) 0 * 100000000) = true, inR IntKind.i64 (j + (↑(List.length (digs (Int.natAbs V))) : Int)) = true, inR IntKind.i64 (j + (↑(List.length (digs (Int.natAbs V))) : Int) - 1) = true, decide (0 ≤ j + (↑(List.length (digs (Int.natAbs V))) : Int) - 1) = true, decide (j + (↑(List.length (digs (Int.natAbs V))) : Int) - 1 < (↑L : Int)) = true, decide (0 + Int.toNat (j + (↑(List.length (digs (Int.natAbs V))) : Int) - 1) * 1 < List.length u) = true, inR IntKind.i64 (List.getD u (0 + Int.toNat (j + (↑(List.length (digs (Int.natAbs V))) : Int)) * 1) 0 * 100000000 + List.getD u (0 + Int.toNat (j + (↑(List.length (digs (Int.natAbs V))) : Int) - 1) * 1) 0) = true, inR IntKind.i64 ((↑(List.length (digs (Int.natAbs V))) : Int) - 1) = true, decide (0 ≤ (↑(List.length (digs (Int.natAbs V))) : Int) - 1) = true, decide ((↑(List.length (digs (Int.natAbs V))) : Int) - 1 < (↑(List.length (digs (Int.natAbs V))) : Int)) = true, decide (Int.toNat ((↑(List.length (digs (Int.natAbs V))) : Int) - 1) < List.length (digs (Int.natAbs V))) = true, (!decide (List.getD (digs (Int.natAbs V)) (Int.toNat ((↑(List.length (digs (Int.natAbs V))) : Int) - 1)) 0 = 0)) = true, inR IntKind.i64 (Int.tdiv (List.getD u (0 + Int.toNat (j + (↑(List.length (digs (Int.natAbs V))) : Int)) * 1) 0 * 100000000 + List.getD u (0 + Int.toNat (j + (↑(List.length (digs (Int.natAbs V))) : Int) - 1) * 1) 0) (List.getD (digs (Int.natAbs V)) (Int.toNat ((↑(List.length (digs (Int.natAbs V))) : Int) - 1)) 0)) = true, LoopOK Tryz.prog (lpOf Tryz.prog 176 1) (viaL Tryz.prog (lpOf Tryz.prog 176 1) [] [6, 7, 8, 9, 10, 11, 12, 13, 81, 82] [2, 3, 4, 5, 6] ⟨sp 182 [(6, aI f), (7, AV.own 5 0 L 1), (8, AV.wd V), (9, aI (↑(List.length (digs (Int.natAbs V))) : Int)), (10, AV.own 6 0 J 1), (11, aI j), (12, aI g), (13, aI 0), (81, aI (↑(List.length (digs (Int.natAbs V))) : Int)), (82, aI 0)], [Row.flat [aF, AV.wd a] true, Row.flat [aD f, AV.wd f] true, Row.flat [AV.lit (Value.bool (!(false == decide (f < 0)))), AV.own 3 0 n2 1] true, Row.dead, Row.ints [0, 0] true, Row.ints u true, Row.ints out true], [2, 3, 4, 5, 6]⟩ (Ex.exit 2, ⟨sp 182 [(6, aI f), (7, AV.own 5 0 L 1), (8, AV.wd V), (9, aI (↑(List.length (digs (Int.natAbs V))) : Int)), (10, AV.own 6 0 J 1), (11, aI j), (12, aI g), (13, aI c), (81, aI (↑(List.length (digs (Int.natAbs V))) : Int)), (82, aI i)], [Row.flat [aF, AV.wd a] true, Row.flat [aD f, AV.wd f] true, Row.flat [AV.lit (Value.bool (!(false == decide (f < 0)))), AV.own 3 0 n2 1] true, Row.dead, Row.ints [0, 0] true, Row.ints u2 true, Row.ints out true], [2, 3, 4, 5, 6]⟩)), (⟨sp 182 [(6, aI f), (7, AV.own 5 0 L 1), (8, AV.wd V), (9, aI (↑(List.length (digs (Int.natAbs V))) : Int)), (10, AV.own 6 0 J 1), (11, aI j), (12, aI (if 99999999 < Int.tdiv (List.getD u (0 + Int.toNat (j + (↑(List.length (digs (Int.natAbs V))) : Int)) * 1) 0 * 100000000 + List.getD u (0 + Int.toNat (j + (↑(List.length (digs (Int.natAbs V))) : Int) - 1) * 1) 0) (List.getD (digs (Int.natAbs V)) (Int.toNat ((↑(List.length (digs (Int.natAbs V))) : Int) - 1)) 0) then 99999999 else Int.tdiv (List.getD u (0 + Int.toNat (j + (↑(List.length (digs (Int.natAbs V))) : Int)) * 1) 0 * 100000000 + List.getD u (0 + Int.toNat (j + (↑(List.length (digs (Int.natAbs V))) : Int) - 1) * 1) 0) (List.getD (digs (Int.natAbs V)) (Int.toNat ((↑(List.length (digs (Int.natAbs V))) : Int) - 1)) 0))), (13, aI 0), (81, aI (↑(List.length (digs (Int.natAbs V))) : Int)), (82, aI 0)], [Row.flat [aF, AV.wd a] true, Row.flat [aD f, AV.wd f] true, Row.flat [AV.lit (Value.bool (!(false == decide (f < 0)))), AV.own 3 0 n2 1] true, Row.dead, Row.ints [0, 0] true, Row.ints u true, Row.ints out true], [2, 3, 4, 5, 6]⟩ : St) = ⟨sp 182 [(6, aI f), (7, AV.own 5 0 L 1), (8, AV.wd V), (9, aI (↑(List.length (digs (Int.natAbs V))) : Int)), (10, AV.own 6 0 J 1), (11, aI j), (12, aI g), (13, aI 0), (81, aI (↑(List.length (digs (Int.natAbs V))) : Int)), (82, aI 0)], [Row.flat [aF, AV.wd a] true, Row.flat [aD f, AV.wd f] true, Row.flat [AV.lit (Value.bool (!(false == decide (f < 0)))), AV.own 3 0 n2 1] true, Row.dead, Row.ints [0, 0] true, Row.ints u true, Row.ints out true], [2, 3, 4, 5, 6]⟩, Loops 7 Tryz.prog (lpOf Tryz.prog 176 1) ⟨sp 182 [(6, aI f), (7, AV.own 5 0 L 1), (8, AV.wd V), (9, aI (↑(List.length (digs (Int.natAbs V))) : Int)), (10, AV.own 6 0 J 1), (11, aI j), (12, aI g), (13, aI 0), (81, aI (↑(List.length (digs (Int.natAbs V))) : Int)), (82, aI 0)], [Row.flat [aF, AV.wd a] true, Row.flat [aD f, AV.wd f] true, Row.flat [AV.lit (Value.bool (!(false == decide (f < 0)))), AV.own 3 0 n2 1] true, Row.dead, Row.ints [0, 0] true, Row.ints u true, Row.ints out true], [2, 3, 4, 5, 6]⟩ (Ex.exit 2, ⟨sp 182 [(6, aI f), (7, AV.own 5 0 L 1), (8, AV.wd V), (9, aI (↑(List.length (digs (Int.natAbs V))) : Int)), (10, AV.own 6 0 J 1), (11, aI j), (12, aI g), (13, aI c), (81, aI (↑(List.length (digs (Int.natAbs V))) : Int)), (82, aI i)], [Row.flat [aF, AV.wd a] true, Row.flat [aD f, AV.wd f] true, Row.flat [AV.lit (Value.bool (!(false == decide (f < 0)))), AV.own 3 0 n2 1] true, Row.dead, Row.ints [0, 0] true, Row.ints u2 true, Row.ints out true], [2, 3, 4, 5, 6]⟩), inR IntKind.i64 (j + (↑(List.length (digs (Int.natAbs V))) : Int)) = true, decide (0 ≤ j + (↑(List.length (digs (Int.natAbs V))) : Int)) = true, decide (j + (↑(List.length (digs (Int.natAbs V))) : Int) < (↑L : Int)) = true, decide (0 + Int.toNat (j + (↑(List.length (digs (Int.natAbs V))) : Int)) * 1 < List.length u2) = true, inR IntKind.i64 (List.getD u2 (0 + Int.toNat (j + (↑(List.length (digs (Int.natAbs V))) : Int)) * 1) 0 + c) = true, decide (0 ≤ j + (↑(List.length (digs (Int.natAbs V))) : Int)) = true, decide (j + (↑(List.length (digs (Int.natAbs V))) : Int) < (↑L : Int)) = true, decide (0 + Int.toNat (j + (↑(List.length (digs (Int.natAbs V))) : Int)) * 1 < List.length u2) = true, LoopOK Tryz.prog (lpOf Tryz.prog 176 2) (viaL Tryz.prog (lpOf Tryz.prog 176 2) [] [6, 7, 8, 9, 10, 11, 12] [2, 3, 4, 5, 6] ⟨sp 182 [(6, aI f), (7, AV.own 5 0 L 1), (8, AV.wd V), (9, aI (↑(List.length (digs (Int.natAbs V))) : Int)), (10, AV.own 6 0 J 1), (11, aI j), (12, aI g)], [Row.flat [aF, AV.wd a] true, Row.flat [aD f, AV.wd f] true, Row.flat [AV.lit (Value.bool (!(false == decide (f < 0)))), AV.own 3 0 n2 1] true, Row.dead, Row.ints [0, 0] true, Row.ints (List.set u2 (Int.toNat j + List.length (digs (Int.natAbs V))) (List.getD u2 (Int.toNat j + List.length (digs (Int.natAbs V))) 0 + c)) true, Row.ints out true], [2, 3, 4, 5, 6]⟩ (Ex.exit 4, ⟨sp 182 [(6, aI f), (7, AV.own 5 0 L 1), (8, AV.wd V), (9, aI (↑(List.length (digs (Int.natAbs V))) : Int)), (10, AV.own 6 0 J 1), (11, aI j), (12, aI g2)], [Row.flat [aF, AV.wd a] true, Row.flat [aD f, AV.wd f] true, Row.flat [AV.lit (Value.bool (!(false == decide (f < 0)))), AV.own 3 0 n2 1] true, Row.dead, Row.ints [0, 0] true, Row.ints u3 true, Row.ints out true], [2, 3, 4, 5, 6]⟩)), (⟨sp 182 [(6, aI f), (7, AV.own 5 0 L 1), (8, AV.wd V), (9, aI (↑(List.length (digs (Int.natAbs V))) : Int)), (10, AV.own 6 0 J 1), (11, aI j), (12, aI g)], [Row.flat [aF, AV.wd a] true, Row.flat [aD f, AV.wd f] true, Row.flat [AV.lit (Value.bool (!(false == decide (f < 0)))), AV.own 3 0 n2 1] true, Row.dead, Row.ints [0, 0] true, Row.ints (List.set u2 (0 + Int.toNat (j + (↑(List.length (digs (Int.natAbs V))) : Int)) * 1) (List.getD u2 (0 + Int.toNat (j + (↑(List.length (digs (Int.natAbs V))) : Int)) * 1) 0 + c)) true, Row.ints out true], [2, 3, 4, 5, 6]⟩ : St) = ⟨sp 182 [(6, aI f), (7, AV.own 5 0 L 1), (8, AV.wd V), (9, aI (↑(List.length (digs (Int.natAbs V))) : Int)), (10, AV.own 6 0 J 1), (11, aI j), (12, aI g)], [Row.flat [aF, AV.wd a] true, Row.flat [aD f, AV.wd f] true, Row.flat [AV.lit (Value.bool (!(false == decide (f < 0)))), AV.own 3 0 n2 1] true, Row.dead, Row.ints [0, 0] true, Row.ints (List.set u2 (Int.toNat j + List.length (digs (Int.natAbs V))) (List.getD u2 (Int.toNat j + List.length (digs (Int.natAbs V))) 0 + c)) true, Row.ints out true], [2, 3, 4, 5, 6]⟩, Loops 7 Tryz.prog (lpOf Tryz.prog 176 2) ⟨sp 182 [(6, aI f), (7, AV.own 5 0 L 1), (8, AV.wd V), (9, aI (↑(List.length (digs (Int.natAbs V))) : Int)), (10, AV.own 6 0 J 1), (11, aI j), (12, aI g)], [Row.flat [aF, AV.wd a] true, Row.flat [aD f, AV.wd f] true, Row.flat [AV.lit (Value.bool (!(false == decide (f < 0)))), AV.own 3 0 n2 1] true, Row.dead, Row.ints [0, 0] true, Row.ints (List.set u2 (Int.toNat j + List.length (digs (Int.natAbs V))) (List.getD u2 (Int.toNat j + List.length (digs (Int.natAbs V))) 0 + c)) true, Row.ints out true], [2, 3, 4, 5, 6]⟩ (Ex.exit 4, ⟨sp 182 [(6, aI f), (7, AV.own 5 0 L 1), (8, AV.wd V), (9, aI (↑(List.length (digs (Int.natAbs V))) : Int)), (10, AV.own 6 0 J 1), (11, aI j), (12, aI g2)], [Row.flat [aF, AV.wd a] true, Row.flat [aD f, AV.wd f] true, Row.flat [AV.lit (Value.bool (!(false == decide (f < 0)))), AV.own 3 0 n2 1] true, Row.dead, Row.ints [0, 0] true, Row.ints u3 true, Row.ints out true], [2, 3, 4, 5, 6]⟩), decide (0 ≤ j) = true, decide (j < (↑J : Int)) = true, decide (0 + Int.toNat j * 1 < List.length out) = true, inR IntKind.i64 (j - 1) = true]) := by kernel_rfl
theorem loX_0 (a f : Int) (n2 : Nat) (V : Int) (L J : Nat) (j : Int) (u out : List Int) : rndA (mkCfg Tryz.prog ctr7 bw [107, 150]) 60 (lpOf Tryz.prog 176 0) 7 [] [6, 7, 8, 9, 10, 11] [2, 3, 4, 5, 6] (LO a f n2 V L J j u out) [false] [] = some (Ex.exit 0, ⟨sp 182 [(6, aI f), (7, AV.own 5 0 L 1), (8, AV.wd V), (9, aI (↑(List.length (digs (Int.natAbs V))) : Int)), (10, AV.own 6 0 J 1), (11, aI j)], [Row.flat [aF, AV.wd a] true, Row.flat [aD f, AV.wd f] true, Row.flat [AV.lit (Value.bool (!(false == decide (f < 0)))), AV.own 3 0 n2 1] true, Row.dead, Row.ints [0, 0] true, Row.ints u true, Row.ints out true], [2, 3, 4, 5, 6]⟩, [decide (j ≥ 0) = false]) := by kernel_rfl
theorem pFl {n : Int} (h1 : -9223372036854775808 ≤ n) (h2 : n ≤ 9223372036854775807) : pFloored n := ⟨h1, h2⟩
theorem ok7o : (mkCfg Tryz.prog ctr7 bw [107, 150]).OK := cfg_ok ctr7_all

/-- Digits everywhere but at one place. -/
def Dg (u : List Int) (p : Nat) : Prop := ∀ q, q ≠ p → 0 ≤ u.getD q 0 ∧ u.getD q 0 < 100000000
theorem Dg.of {u : List Int} (h : Digs u) (p : Nat) : Dg u p := fun q _ => dig_getD h q
theorem Dg.digs {u : List Int} {p : Nat} (h : Dg u p) (h0 : 0 ≤ u.getD p 0) (h1 : u.getD p 0 < 100000000) : Digs u := by
  intro d hd
  obtain ⟨q, hq, rfl⟩ := List.getElem_of_mem hd
  have e : u.getD q 0 = u[q] := by simp [List.getD, hq]
  by_cases hp : q = p
  · subst hp; rw [← e]; exact ⟨h0, h1⟩
  · rw [← e]; exact h q hp
theorem getD_set (u : List Int) (i q : Nat) (v : Int) (h : i < u.length) : (u.set i v).getD q 0 = if q = i then v else u.getD q 0 := by
  by_cases hq : q = i
  · subst hq; rw [if_pos rfl]; exact getD_set_self _ _ _ h
  · rw [if_neg hq]; exact getD_set_ne _ _ _ _ hq
theorem Dg.set {u : List Int} {p : Nat} (h : Dg u p) (i : Nat) {v : Int} (hi : i < u.length) (h0 : 0 ≤ v) (h1 : v < 100000000) : Dg (u.set i v) p := by
  intro q hq
  rw [getD_set _ _ _ _ hi]
  split
  · exact ⟨h0, h1⟩
  · exact h q hq
theorem Dg.top {u : List Int} {p : Nat} (h : Dg u p) (v : Int) : Dg (u.set p v) p := by
  intro q hq
  rw [getD_set_ne _ _ _ _ hq]
  exact h q hq

theorem take_eq {u u' : List Int} {j : Nat} (hl : u'.length = u.length) (h : ∀ p, p < j → u'.getD p 0 = u.getD p 0) : u'.take j = u.take j := by
  apply List.ext_getElem
  · simp [hl]
  · intro i h1 h2
    simp only [List.length_take] at h1
    have := h i (by omega)
    have e1 : u'.getD i 0 = u'[i] := by simp [List.getD, show i < u'.length by omega]
    have e2 : u.getD i 0 = u[i] := by simp [List.getD, show i < u.length by omega]
    rw [List.getElem_take, List.getElem_take, ← e1, ← e2, this]
theorem drop_eq {u u' : List Int} {j : Nat} (hl : u'.length = u.length) (h : ∀ p, j ≤ p → u'.getD p 0 = u.getD p 0) : u'.drop j = u.drop j := by
  apply List.ext_getElem
  · simp [hl]
  · intro i h1 h2
    simp only [List.length_drop] at h1
    have := h (j + i) (by omega)
    have e1 : u'.getD (j + i) 0 = u'[j + i]'(by omega) := by simp [List.getD, show j + i < u'.length by omega]
    have e2 : u.getD (j + i) 0 = u[j + i]'(by omega) := by simp [List.getD, show j + i < u.length by omega]
    rw [List.getElem_drop, List.getElem_drop, ← e1, ← e2, this]
theorem vl_split (u : List Int) (j : Nat) (h : j ≤ u.length) : vl u = vl (u.take j) + 100000000 ^ j * vl (u.drop j) := by
  have := vl_append (u.take j) (u.drop j)
  rw [List.take_append_drop, List.length_take, Nat.min_eq_left h] at this
  exact this
/-- The window. -/
theorem win_split (u : List Int) (j n : Nat) (h : j + n ≤ u.length) : vl (u.drop j) = vl ((u.drop j).take n) + 100000000 ^ n * vl (u.drop (j + n)) := by
  have := vl_split (u.drop j) n (by simp; omega)
  rw [List.drop_drop] at this
  exact this
theorem cancel_pow {j : Nat} {a b : Int} (h : 100000000 ^ j * a = 100000000 ^ j * b) : a = b :=
  Int.eq_of_mul_eq_mul_left (Int.ne_of_gt (pow_pos j)) h

theorem subL (a f : Int) (n2 : Nat) (V : Int) (L J j : Nat) (g : Int) (out : List Int) (hL : L ≤ 4194304) (hj : j + (digs V.natAbs).length < L) (hg0 : 0 ≤ g) (hg1 : g < 100000000) :
    ∀ (r i : Nat) (u : List Int) (c : Int), i + r = (digs V.natAbs).length → Digs u → u.length = L → -100000000 ≤ c → c ≤ 0 →
    ∃ (u2 : List Int) (c2 : Int), Digs u2 ∧ u2.length = L ∧ -100000000 ≤ c2 ∧ c2 ≤ 0 ∧ vl u2 + 100000000 ^ (j + (digs V.natAbs).length) * c2 = vl u + 100000000 ^ (j + i) * (c - g * vl ((digs V.natAbs).drop i)) ∧
      (∀ p, j + (digs V.natAbs).length ≤ p → u2.getD p 0 = u.getD p 0) ∧ (∀ p, p < j → u2.getD p 0 = u.getD p 0) ∧
      Loops 7 Tryz.prog (lpOf Tryz.prog 176 1) (LSb a f n2 V L J j g c i u out) (.exit 2, LSb a f n2 V L J j g c2 ((digs V.natAbs).length : Int) u2 out)
  | 0, i, u, c, hi, hd, hl, hc0, hc1 => by
    obtain rfl : i = (digs V.natAbs).length := by omega
    refine ⟨u, c, hd, hl, hc0, hc1, ?_, fun _ _ => rfl, fun _ _ => rfl, Loops.fin (LS.of ok7o (loS_1 a f n2 V L J j g c ((digs V.natAbs).length : Int) u out) (by (repeat' (first | exact AllC.nil | refine AllC.cons ?_ ?_)); all_goals (first | exact viaL_ok | ((with_reducible refine inR64.2 ?_); omega) | (with_reducible refine pFl ?_ ?_ <;> omega) | ((with_reducible refine decide_eq_true ?_); omega) | ((with_reducible refine decide_eq_false ?_); omega) | omega | (simp [] <;> omega) | assumption | rfl))) (by simp [Ex.toExit])⟩
    rw [List.drop_length]; simp [vl]
  | r + 1, i, u, c, hi, hd, hl, hc0, hc1 => by
    have hnat : 0 + Int.toNat ((i : Int) + (j : Int)) * 1 = j + i := by omega
    have hin : Int.toNat (i : Int) = i := by omega
    have hib : i < (digs V.natAbs).length := by omega
    obtain ⟨hy0, hy1⟩ := dig_getD (Digs_digs V.natAbs) i
    obtain ⟨hx0, hx1⟩ := dig_getD hd (j + i)
    obtain ⟨hm0, hm1⟩ := mul_dig hg0 hg1 hy0 hy1
    have hdr := vl_drop (digs V.natAbs) i
    have e2 : ∀ t, t = u.getD (j + i) 0 - g * (digs V.natAbs).getD i 0 + c →
        c - g * ((digs V.natAbs).getD i 0 + 100000000 * vl ((digs V.natAbs).drop (i + 1))) = (t % 100000000 - u.getD (j + i) 0) + 100000000 * (t / 100000000 - g * vl ((digs V.natAbs).drop (i + 1))) := by
      intro t ht
      rw [Int.mul_add g, Int.mul_left_comm g 100000000]
      generalize g * (digs V.natAbs).getD i 0 = m at *
      omega
    generalize hm : g * (digs V.natAbs).getD i 0 = m at *
    have h := LS.of ok7o (loS_0 a f n2 V L J j g c i u out) (by
      rw [hnat, hin, hm]
      exact (by (repeat' (first | exact AllC.nil | refine AllC.cons ?_ ?_)); all_goals (first | exact viaL_ok | ((with_reducible refine inR64.2 ?_); omega) | (with_reducible refine pFl ?_ ?_ <;> omega) | ((with_reducible refine decide_eq_true ?_); omega) | ((with_reducible refine decide_eq_false ?_); omega) | omega | (simp [hib, hl, pFloored] <;> omega) | assumption | rfl)))
    rw [hnat, hin, hm] at h
    have hv := vl_set u (j + i) ((u.getD (j + i) 0 - m + c) % 100000000) (by omega)
    have hD : Digs (u.set (j + i) ((u.getD (j + i) 0 - m + c) % 100000000)) := Digs_set hd _ (by omega) (by omega)
    obtain ⟨u2, c2, k1, k2, k3, k4, k5, k6, k7, k8⟩ := subL a f n2 V L J j g out hL hj hg0 hg1 r (i + 1) (u.set (j + i) ((u.getD (j + i) 0 - m + c) % 100000000)) ((u.getD (j + i) 0 - m + c) / 100000000)
      (by omega) hD (by simp; omega) (by omega) (by omega)
    have e : ((i + 1 : Nat) : Int) = (i : Int) + 1 := by omega
    rw [e] at k8
    refine ⟨u2, c2, k1, k2, k3, k4, ?_, fun p hp => (k6 p hp).trans (getD_set_ne _ _ _ _ (by omega)), fun p hp => (k7 p hp).trans (getD_set_ne _ _ _ _ (by omega)), Loops.go h k8⟩
    rw [k5, hv, hdr, ← Nat.add_assoc, Int.pow_succ, e2 _ rfl, alg1, Int.add_assoc]

theorem addL (a f : Int) (n2 : Nat) (V : Int) (L J j : Nat) (g : Int) (out : List Int) (hL : L ≤ 4194304) (hj : j + (digs V.natAbs).length < L) :
    ∀ (r i : Nat) (u : List Int) (c : Int), i + r = (digs V.natAbs).length → Dg u (j + (digs V.natAbs).length) → u.length = L → (c = 0 ∨ c = 1) →
    ∃ (u2 : List Int) (c2 : Int), Dg u2 (j + (digs V.natAbs).length) ∧ u2.length = L ∧ (c2 = 0 ∨ c2 = 1) ∧ vl u2 + 100000000 ^ (j + (digs V.natAbs).length) * c2 = vl u + 100000000 ^ (j + i) * (c + vl ((digs V.natAbs).drop i)) ∧
      (∀ p, j + (digs V.natAbs).length ≤ p → u2.getD p 0 = u.getD p 0) ∧ (∀ p, p < j → u2.getD p 0 = u.getD p 0) ∧
      Loops 7 Tryz.prog (lpOf Tryz.prog 176 3) (LA a f n2 V L J j g c i u out) (.exit 6, LA a f n2 V L J j g c2 ((digs V.natAbs).length : Int) u2 out)
  | 0, i, u, c, hi, hd, hl, hc => by
    obtain rfl : i = (digs V.natAbs).length := by omega
    refine ⟨u, c, hd, hl, hc, ?_, fun _ _ => rfl, fun _ _ => rfl, Loops.fin (LS.of ok7o (loA_1 a f n2 V L J j g c ((digs V.natAbs).length : Int) u out) (by (repeat' (first | exact AllC.nil | refine AllC.cons ?_ ?_)); all_goals (first | exact viaL_ok | ((with_reducible refine inR64.2 ?_); omega) | (with_reducible refine pFl ?_ ?_ <;> omega) | ((with_reducible refine decide_eq_true ?_); omega) | ((with_reducible refine decide_eq_false ?_); omega) | omega | (simp [] <;> omega) | assumption | rfl))) (by simp [Ex.toExit])⟩
    rw [List.drop_length]; simp [vl]
  | r + 1, i, u, c, hi, hd, hl, hc => by
    have hnat : 0 + Int.toNat ((i : Int) + (j : Int)) * 1 = j + i := by omega
    have hin : Int.toNat (i : Int) = i := by omega
    have hib : i < (digs V.natAbs).length := by omega
    obtain ⟨hy0, hy1⟩ := dig_getD (Digs_digs V.natAbs) i
    obtain ⟨hx0, hx1⟩ := hd (j + i) (by omega)
    have hdr := vl_drop (digs V.natAbs) i
    have h := LS.of ok7o (loA_0 a f n2 V L J j g c i u out) (by
      rw [hnat, hin]
      exact (by (repeat' (first | exact AllC.nil | refine AllC.cons ?_ ?_)); all_goals (first | exact viaL_ok | ((with_reducible refine inR64.2 ?_); omega) | (with_reducible refine pFl ?_ ?_ <;> omega) | ((with_reducible refine decide_eq_true ?_); omega) | ((with_reducible refine decide_eq_false ?_); omega) | omega | (simp [hib, hl, pFloored] <;> omega) | assumption | rfl)))
    rw [hnat, hin] at h
    have hv := vl_set u (j + i) ((u.getD (j + i) 0 + (digs V.natAbs).getD i 0 + c) % 100000000) (by omega)
    have hD : Dg (u.set (j + i) ((u.getD (j + i) 0 + (digs V.natAbs).getD i 0 + c) % 100000000)) (j + (digs V.natAbs).length) := hd.set _ (by omega) (by omega) (by omega)
    obtain ⟨u2, c2, k1, k2, k3, k5, k6, k7, k8⟩ := addL a f n2 V L J j g out hL hj r (i + 1) (u.set (j + i) ((u.getD (j + i) 0 + (digs V.natAbs).getD i 0 + c) % 100000000)) ((u.getD (j + i) 0 + (digs V.natAbs).getD i 0 + c) / 100000000)
      (by omega) hD (by simp; omega) (by omega)
    have e : ((i + 1 : Nat) : Int) = (i : Int) + 1 := by omega
    rw [e] at k8
    refine ⟨u2, c2, k1, k2, k3, ?_, fun p hp => (k6 p hp).trans (getD_set_ne _ _ _ _ (by omega)), fun p hp => (k7 p hp).trans (getD_set_ne _ _ _ _ (by omega)), Loops.go h k8⟩
    rw [k5, hv, hdr, ← Nat.add_assoc, Int.pow_succ]
    have e2 : c + ((digs V.natAbs).getD i 0 + 100000000 * vl ((digs V.natAbs).drop (i + 1))) = ((u.getD (j + i) 0 + (digs V.natAbs).getD i 0 + c) % 100000000 - u.getD (j + i) 0) + 100000000 * ((u.getD (j + i) 0 + (digs V.natAbs).getD i 0 + c) / 100000000 + vl ((digs V.natAbs).drop (i + 1))) := by omega
    rw [e2, alg1, Int.add_assoc]

theorem pow_le_of_pos {n : Nat} {t : Int} (h : 1 ≤ t) : (100000000 : Int) ^ n ≤ 100000000 ^ n * t := by
  have := Int.mul_le_mul_of_nonneg_left h (pow_nn n)
  rwa [Int.mul_one] at this
theorem pow_ge_of_neg {n : Nat} {t : Int} (h : t ≤ -1) : (100000000 : Int) ^ n * t ≤ - 100000000 ^ n := by
  have := Int.mul_le_mul_of_nonneg_left h (pow_nn n)
  rw [Int.mul_neg, Int.mul_one] at this
  exact this
theorem natAbs_lt (V : Int) : (V.natAbs : Int) < 100000000 ^ (digs V.natAbs).length := by
  have := vl_lt (Digs_digs V.natAbs)
  rwa [vl_digs] at this

/-- The window's value by its top digit. -/
theorem window {u : List Int} {j n : Nat} (h : j + n < u.length) (hd : Dg u (j + n)) (hz : vl (u.drop (j + n + 1)) = 0) :
    ∃ low, 0 ≤ low ∧ low < 100000000 ^ n ∧ vl (u.drop j) = low + 100000000 ^ n * u.getD (j + n) 0 := by
  have hD : Digs ((u.drop j).take n) := by
    intro d hd'
    obtain ⟨q, hq, rfl⟩ := List.getElem_of_mem hd'
    simp only [List.length_take, List.length_drop] at hq
    have hq2 : j + q < u.length := by omega
    rw [List.getElem_take, List.getElem_drop]
    have := hd (j + q) (by omega)
    simpa [List.getD, hq2] using this
  refine ⟨vl ((u.drop j).take n), vl_nonneg hD, ?_, ?_⟩
  · have := vl_lt hD
    have hl : ((u.drop j).take n).length = n := by simp; omega
    rwa [hl] at this
  · rw [win_split u j n (by omega), vl_drop u (j + n), hz, Int.mul_zero, Int.add_zero]

theorem corL (a f : Int) (n2 : Nat) (V : Int) (L J j : Nat) (out : List Int) (hL : L ≤ 4194304) (hj : j + (digs V.natAbs).length < L) (U : Int) (hU : 0 ≤ U) :
    ∀ (k : Nat) (g : Int) (u : List Int), g ≤ k → 0 ≤ g → g < 100000000 → Dg u (j + (digs V.natAbs).length) → u.length = L → vl (u.drop (j + (digs V.natAbs).length + 1)) = 0 →
      vl (u.drop j) = U - g * (V.natAbs : Int) → U < (g + 1) * (V.natAbs : Int) → -100000000 ≤ u.getD (j + (digs V.natAbs).length) 0 → u.getD (j + (digs V.natAbs).length) 0 ≤ 100000000 →
    ∃ (g2 : Int) (u2 : List Int), 0 ≤ g2 ∧ g2 < 100000000 ∧ Digs u2 ∧ u2.length = L ∧ (∀ q, q < j → u2.getD q 0 = u.getD q 0) ∧ vl (u2.drop j) = U - g2 * (V.natAbs : Int) ∧ vl (u2.drop j) < (V.natAbs : Int) ∧
      Loops 7 Tryz.prog (lpOf Tryz.prog 176 2) (LC a f n2 V L J j g u out) (.exit 4, LC a f n2 V L J j g2 u2 out) := by
  intro k
  induction k with
  | zero =>
    intro g u hgk hg0 hg1 hd hl hz hH hUg hb1 hb2
    obtain rfl : g = 0 := by omega
    obtain ⟨low, hl0, hl1, hw⟩ := window (by omega) hd hz
    have hnat : 0 + Int.toNat ((j : Int) + ((digs V.natAbs).length : Int)) * 1 = j + (digs V.natAbs).length := by omega
    have hVB := natAbs_lt V
    rw [Int.zero_mul, Int.sub_zero] at hH
    have htop : u.getD (j + (digs V.natAbs).length) 0 = 0 := by
      rcases Int.lt_or_le (u.getD (j + (digs V.natAbs).length) 0) 0 with h | h
      · have := pow_ge_of_neg (n := (digs V.natAbs).length) (show u.getD (j + (digs V.natAbs).length) 0 ≤ -1 by omega)
        omega
      · rcases Int.lt_or_le 0 (u.getD (j + (digs V.natAbs).length) 0) with h2 | h2
        · have := pow_le_of_pos (n := (digs V.natAbs).length) (show 1 ≤ u.getD (j + (digs V.natAbs).length) 0 by omega)
          omega
        · omega
    have h := LS.of ok7o (loD_0 a f n2 V L J j 0 u out) (by
      rw [hnat]
      exact (by (repeat' (first | exact AllC.nil | refine AllC.cons ?_ ?_)); all_goals (first | exact viaL_ok | ((with_reducible refine inR64.2 ?_); omega) | (with_reducible refine pFl ?_ ?_ <;> omega) | ((with_reducible refine decide_eq_true ?_); omega) | ((with_reducible refine decide_eq_false ?_); omega) | omega | (simp [hl] <;> omega) | assumption | rfl)))
    refine ⟨0, u, by omega, by omega, hd.digs (by omega) (by omega), hl, fun _ _ => rfl, by rw [hH]; omega, by omega, Loops.fin h (by simp [Ex.toExit])⟩
  | succ k ih =>
    intro g u hgk hg0 hg1 hd hl hz hH hUg hb1 hb2
    obtain ⟨low, hl0, hl1, hw⟩ := window (by omega) hd hz
    have hnat : 0 + Int.toNat ((j : Int) + ((digs V.natAbs).length : Int)) * 1 = j + (digs V.natAbs).length := by omega
    have hVB := natAbs_lt V
    have hexp : (g + 1) * (V.natAbs : Int) = g * (V.natAbs : Int) + (V.natAbs : Int) := by rw [Int.add_mul, Int.one_mul]
    have hgV : 0 ≤ g * (V.natAbs : Int) := Int.mul_nonneg hg0 (by omega)
    rcases Int.lt_or_le (u.getD (j + (digs V.natAbs).length) 0) 0 with hneg | hpos
    · have hn := pow_ge_of_neg (n := (digs V.natAbs).length) (show u.getD (j + (digs V.natAbs).length) 0 ≤ -1 by omega)
      have hg1' : 1 ≤ g := by
        rcases Int.lt_or_le g 1 with h | h
        · have : g = 0 := by omega
          subst this
          rw [Int.zero_mul] at hH
          omega
        · exact h
      obtain ⟨u2, c2, k1, k2, k3, k5, k6, k7, k8⟩ := addL a f n2 V L J j (g - 1) out hL hj (digs V.natAbs).length 0 u 0 (by omega) hd hl (.inl rfl)
      have k8' : Loops 7 Tryz.prog (lpOf Tryz.prog 176 3) (LA a f n2 V L J j (g - 1) 0 0 u out) (.exit 6, LA a f n2 V L J j (g - 1) c2 ((digs V.natAbs).length : Int) u2 out) := k8
      have ht2 := k6 (j + (digs V.natAbs).length) (Nat.le_refl _)
      have h := LS.of ok7o (loC_0 a f n2 V L J j g c2 ((digs V.natAbs).length : Int) u u2 out) (by
        rw [hnat]
        exact (by (repeat' (first | exact AllC.nil | refine AllC.cons ?_ ?_)); all_goals (first | exact viaL_ok | ((with_reducible refine inR64.2 ?_); omega) | (with_reducible refine pFl ?_ ?_ <;> omega) | ((with_reducible refine decide_eq_true ?_); omega) | ((with_reducible refine decide_eq_false ?_); omega) | omega | (simp [hl, k2] <;> omega) | assumption | rfl)))
      rw [hnat] at h
      have hv := vl_set u2 (j + (digs V.natAbs).length) (u2.getD (j + (digs V.natAbs).length) 0 + c2) (by omega)
      generalize hu3 : u2.set (j + (digs V.natAbs).length) (u2.getD (j + (digs V.natAbs).length) 0 + c2) = u3 at *
      have hl3 : u3.length = L := by rw [← hu3]; simp [k2]
      have hlow3 : ∀ q, q < j → u3.getD q 0 = u.getD q 0 := fun q hq => by
        rw [← hu3, getD_set_ne _ _ _ _ (by omega)]; exact k7 q hq
      have hhigh3 : vl (u3.drop (j + (digs V.natAbs).length + 1)) = 0 := by
        rw [drop_eq (u := u) (by rw [hl3, hl]) (fun q hq => by
          rw [← hu3, getD_set_ne _ _ _ _ (by omega)]; exact k6 q (by omega))]
        exact hz
      have htop3 : u3.getD (j + (digs V.natAbs).length) 0 = u.getD (j + (digs V.natAbs).length) 0 + c2 := by
        rw [← hu3, getD_set_self _ _ _ (by omega), ht2]
      have hd3 : Dg u3 (j + (digs V.natAbs).length) := by rw [← hu3]; exact k1.top _
      have hH3 : vl (u3.drop j) = U - (g - 1) * (V.natAbs : Int) := by
        have s1 := vl_split u j (by omega)
        have s3 := vl_split u3 j (by omega)
        rw [take_eq (by rw [hl3, hl]) hlow3] at s3
        have e1 : u2.getD (j + (digs V.natAbs).length) 0 + c2 - u2.getD (j + (digs V.natAbs).length) 0 = c2 := by omega
        rw [e1, k5, Nat.add_zero, Int.zero_add, List.drop_zero, vl_digs] at hv
        have : (100000000 : Int) ^ j * vl (u3.drop j) = 100000000 ^ j * (vl (u.drop j) + (V.natAbs : Int)) := by rw [Int.mul_add]; omega
        rw [cancel_pow this, hH, Int.sub_mul, Int.one_mul]; omega
      obtain ⟨g2, u4, m1, m2, m3, m4, m5, m6, m7, m8⟩ := ih (g - 1) u3 (by omega) (by omega) (by omega) hd3 hl3 hhigh3 hH3 (by
        have : g - 1 + 1 = g := by omega
        rw [this]; omega) (by rw [htop3]; omega) (by rw [htop3]; omega)
      exact ⟨g2, u4, m1, m2, m3, m4, fun q hq => (m5 q hq).trans (hlow3 q hq), m6, m7, Loops.go h m8⟩
    · have htop : u.getD (j + (digs V.natAbs).length) 0 = 0 := by
        rcases Int.lt_or_le 0 (u.getD (j + (digs V.natAbs).length) 0) with h2 | h2
        · have := pow_le_of_pos (n := (digs V.natAbs).length) (show 1 ≤ u.getD (j + (digs V.natAbs).length) 0 by omega)
          omega
        · omega
      have h := LS.of ok7o (loD_0 a f n2 V L J j g u out) (by
        rw [hnat]
        exact (by (repeat' (first | exact AllC.nil | refine AllC.cons ?_ ?_)); all_goals (first | exact viaL_ok | ((with_reducible refine inR64.2 ?_); omega) | (with_reducible refine pFl ?_ ?_ <;> omega) | ((with_reducible refine decide_eq_true ?_); omega) | ((with_reducible refine decide_eq_false ?_); omega) | omega | (simp [hl] <;> omega) | assumption | rfl)))
      exact ⟨g, u, hg0, hg1, hd.digs (by omega) (by omega), hl, fun _ _ => rfl, hH, by omega, Loops.fin h (by simp [Ex.toExit])⟩

theorem last_ne {n : Nat} (h : n ≠ 0) : 0 < (digs n).getD ((digs n).length - 1) 0 := by
  have hd := (dig_getD (Digs_digs n) ((digs n).length - 1)).1
  rcases Int.lt_or_le 0 ((digs n).getD ((digs n).length - 1) 0) with h1 | h1
  · exact h1
  · exfalso
    have h0 : (digs n).getD ((digs n).length - 1) 0 = 0 := by omega
    have hne : digs n ≠ [] := fun e => h ((digs_nil n).1 e)
    have hlen : 0 < (digs n).length := List.length_pos_iff.2 hne
    obtain ⟨q, d, hq⟩ : ∃ q d, digs n = q ++ [d] := by
      rcases List.eq_nil_or_concat (digs n) with e | ⟨q, d, e⟩
      · exact absurd e hne
      · exact ⟨q, d, by simpa using e⟩
    have e := trm_digs_self n
    rw [hq] at h0 e
    have hd0 : d = 0 := by simpa [List.getD] using h0
    subst hd0
    rw [trm_zero] at e
    have := trm_length q
    have e2 := congrArg List.length e
    simp at e2
    omega

theorem mainL (a f : Int) (n2 : Nat) (V : Int) (L J : Nat) (hL : L ≤ 4194304) (hV : V ≠ 0) (hn : 1 ≤ (digs V.natAbs).length) (A : Int) :
    ∀ (k : Nat) (u out : List Int), k ≤ J → (k = 0 ∨ k + (digs V.natAbs).length ≤ L) → Digs u → u.length = L → Digs out → out.length = J → (∀ q, q < k → out.getD q 0 = 0) → vl (u.drop k) < (V.natAbs : Int) →
      vl u + (V.natAbs : Int) * vl out = A →
    ∃ (u2 out2 : List Int), Digs u2 ∧ u2.length = L ∧ Digs out2 ∧ out2.length = J ∧ vl u2 < (V.natAbs : Int) ∧ vl u2 + (V.natAbs : Int) * vl out2 = A ∧
      Loops 7 Tryz.prog (lpOf Tryz.prog 176 0) (LO a f n2 V L J ((k : Int) - 1) u out) (.exit 0, LO a f n2 V L J (-1) u2 out2) := by
  intro k
  induction k with
  | zero =>
    intro u out hk hkl hd hl hdo hlo hz hlt hA
    rw [List.drop_zero] at hlt
    exact ⟨u, out, hd, hl, hdo, hlo, hlt, hA, Loops.fin (LS.of ok7o (loX_0 a f n2 V L J (-1) u out) (by (repeat' (first | exact AllC.nil | refine AllC.cons ?_ ?_)); all_goals (first | exact viaL_ok | ((with_reducible refine inR64.2 ?_); omega) | (with_reducible refine pFl ?_ ?_ <;> omega) | ((with_reducible refine decide_eq_true ?_); omega) | ((with_reducible refine decide_eq_false ?_); omega) | omega | (simp [] <;> omega) | assumption | rfl))) (by simp [Ex.toExit])⟩
  | succ k ih =>
    intro u out hk hkl hd hl hdo hlo hz hlt hA
    have hkl' : k + 1 + (digs V.natAbs).length ≤ L := by omega
    have hVB := natAbs_lt V
    have ejj : ((k + 1 : Nat) : Int) - 1 = (k : Int) := by omega
    rw [ejj]
    have hnat : 0 + Int.toNat ((k : Int) + ((digs V.natAbs).length : Int)) * 1 = k + (digs V.natAbs).length := by omega
    have hnat1 : 0 + Int.toNat ((k : Int) + ((digs V.natAbs).length : Int) - 1) * 1 = k + (digs V.natAbs).length - 1 := by omega
    have hnat2 : Int.toNat (((digs V.natAbs).length : Int) - 1) = (digs V.natAbs).length - 1 := by omega
    have hnat3 : 0 + Int.toNat (k : Int) * 1 = k := by omega
    have hnat4 : Int.toNat (k : Int) = k := by omega
    -- the window
    have hx := dig_getD hd k
    have hU0 : 0 ≤ vl (u.drop k) := vl_nonneg (Digs_drop hd k)
    have hU1 := vl_drop u k
    have hhz : vl (u.drop (k + (digs V.natAbs).length + 1)) = 0 := by
      have h1 := win_split u (k + 1) (digs V.natAbs).length (by omega)
      have h2 := vl_nonneg (Digs_take (Digs_drop hd (k + 1)) (digs V.natAbs).length)
      have h3 := vl_nonneg (Digs_drop hd (k + 1 + (digs V.natAbs).length))
      have e : k + 1 + (digs V.natAbs).length = k + (digs V.natAbs).length + 1 := by omega
      rw [e] at h1 h3
      rcases Int.lt_or_le 0 (vl (u.drop (k + (digs V.natAbs).length + 1))) with h4 | h4
      · have := pow_le_of_pos (n := (digs V.natAbs).length) (show 1 ≤ vl (u.drop (k + (digs V.natAbs).length + 1)) by omega)
        omega
      · omega
    have hp0 := dig_getD hd (k + (digs V.natAbs).length)
    have hp1 := dig_getD hd (k + (digs V.natAbs).length - 1)
    have hvt := last_ne (n := V.natAbs) (by omega)
    have hvt2 := (dig_getD (Digs_digs V.natAbs) ((digs V.natAbs).length - 1)).2
    -- the guess
    obtain ⟨X, hX⟩ : ∃ X, X = u.getD (k + (digs V.natAbs).length) 0 * 100000000 + u.getD (k + (digs V.natAbs).length - 1) 0 := ⟨_, rfl⟩
    obtain ⟨vt, hvtd⟩ : ∃ vt, vt = (digs V.natAbs).getD ((digs V.natAbs).length - 1) 0 := ⟨_, rfl⟩
    obtain ⟨g, hg⟩ : ∃ g, (if 99999999 < Int.tdiv X vt then 99999999 else Int.tdiv X vt) = g := ⟨_, rfl⟩
    have htd : Int.tdiv X vt = X / vt := Int.tdiv_eq_ediv_of_nonneg (by omega)
    have hX0 : 0 ≤ X / vt := Int.ediv_nonneg (by omega) (by omega)
    have hX1 : X / vt ≤ X := Int.ediv_le_self _ (by omega)
    have hg0 : 0 ≤ g := by rw [← hg, htd]; split <;> omega
    have hg1 : g < 100000000 := by rw [← hg, htd]; split <;> omega
    have hUX : vl (u.drop k) < 100000000 ^ ((digs V.natAbs).length - 1) * (X + 1) := by
      have h1 := win_split u k ((digs V.natAbs).length - 1) (by omega)
      have h2 := vl_lt (Digs_take (Digs_drop hd k) ((digs V.natAbs).length - 1))
      have h3 : ((u.drop k).take ((digs V.natAbs).length - 1)).length = (digs V.natAbs).length - 1 := by simp; omega
      rw [h3] at h2
      have e1 : k + ((digs V.natAbs).length - 1) = k + (digs V.natAbs).length - 1 := by omega
      have e2 : k + (digs V.natAbs).length - 1 + 1 = k + (digs V.natAbs).length := by omega
      rw [e1, vl_drop u (k + (digs V.natAbs).length - 1), e2, vl_drop u (k + (digs V.natAbs).length), hhz] at h1
      have e3 : u.getD (k + (digs V.natAbs).length - 1) 0 + 100000000 * (u.getD (k + (digs V.natAbs).length) 0 + 100000000 * 0) = X := by omega
      rw [e3] at h1
      rw [Int.mul_add, Int.mul_one]
      omega
    have hVvt : 100000000 ^ ((digs V.natAbs).length - 1) * vt ≤ (V.natAbs : Int) := by
      have h1 := vl_split (digs V.natAbs) ((digs V.natAbs).length - 1) (by omega)
      have h2 := vl_nonneg (Digs_take (Digs_digs V.natAbs) ((digs V.natAbs).length - 1))
      have e2 : (digs V.natAbs).length - 1 + 1 = (digs V.natAbs).length := by omega
      rw [vl_digs, vl_drop (digs V.natAbs) ((digs V.natAbs).length - 1), e2, List.drop_length, ← hvtd] at h1
      simp only [vl, Int.mul_zero, Int.add_zero] at h1
      omega
    have hUg : vl (u.drop k) < (g + 1) * (V.natAbs : Int) := by
      by_cases hb : 99999999 < Int.tdiv X vt
      · rw [if_pos hb] at hg
        subst hg
        omega
      · rw [if_neg hb, htd] at hg
        have h1 := Int.lt_ediv_add_one_mul_self X (b := vt) (by omega)
        rw [hg] at h1
        have h2 : 100000000 ^ ((digs V.natAbs).length - 1) * (X + 1) ≤ 100000000 ^ ((digs V.natAbs).length - 1) * ((g + 1) * vt) := Int.mul_le_mul_of_nonneg_left (by omega) (pow_nn _)
        have h3 : (g + 1) * (100000000 ^ ((digs V.natAbs).length - 1) * vt) ≤ (g + 1) * (V.natAbs : Int) := Int.mul_le_mul_of_nonneg_left hVvt (by omega)
        rw [Int.mul_left_comm] at h2
        omega
    -- the subtraction
    obtain ⟨u2, c2, k1, k2, k3, k4, k5, k6, k7, k8⟩ := subL a f n2 V L J k g out hL (by omega) hg0 hg1 (digs V.natAbs).length 0 u 0 (by omega) hd hl (by omega) (by omega)
    have k8' : Loops 7 Tryz.prog (lpOf Tryz.prog 176 1) (LSb a f n2 V L J k g 0 0 u out) (.exit 2, LSb a f n2 V L J k g c2 ((digs V.natAbs).length : Int) u2 out) := k8
    have ht2 := k6 (k + (digs V.natAbs).length) (Nat.le_refl _)
    have hv := vl_set u2 (k + (digs V.natAbs).length) (u2.getD (k + (digs V.natAbs).length) 0 + c2) (by omega)
    obtain ⟨u3, hu3⟩ : ∃ u3, u2.set (k + (digs V.natAbs).length) (u2.getD (k + (digs V.natAbs).length) 0 + c2) = u3 := ⟨_, rfl⟩
    rw [hu3] at hv
    have hl3 : u3.length = L := by rw [← hu3]; simp [k2]
    have hlow3 : ∀ q, q < k → u3.getD q 0 = u.getD q 0 := fun q hq => by
      rw [← hu3, getD_set_ne _ _ _ _ (by omega)]; exact k7 q hq
    have hhigh3 : vl (u3.drop (k + (digs V.natAbs).length + 1)) = 0 := by
      rw [drop_eq (u := u) (by rw [hl3, hl]) (fun q hq => by
        rw [← hu3, getD_set_ne _ _ _ _ (by omega)]; exact k6 q (by omega))]
      exact hhz
    have htop3 : u3.getD (k + (digs V.natAbs).length) 0 = u.getD (k + (digs V.natAbs).length) 0 + c2 := by
      rw [← hu3, getD_set_self _ _ _ (by omega), ht2]
    have hd3 : Dg u3 (k + (digs V.natAbs).length) := by rw [← hu3]; exact (Dg.of k1 _).top _
    have s1 := vl_split u k (by omega)
    have hH3 : vl (u3.drop k) = vl (u.drop k) - g * (V.natAbs : Int) := by
      have s3 := vl_split u3 k (by omega)
      rw [take_eq (by rw [hl3, hl]) hlow3] at s3
      have e1 : u2.getD (k + (digs V.natAbs).length) 0 + c2 - u2.getD (k + (digs V.natAbs).length) 0 = c2 := by omega
      rw [e1, k5, Nat.add_zero, Int.zero_sub, List.drop_zero, vl_digs] at hv
      have : (100000000 : Int) ^ k * vl (u3.drop k) = 100000000 ^ k * (vl (u.drop k) - g * (V.natAbs : Int)) := by rw [Int.mul_sub]; rw [Int.mul_neg] at hv; omega
      exact cancel_pow this
    obtain ⟨g2, u4, m1, m2, m3, m4, m5, m6, m7, m8⟩ := corL a f n2 V L J k out hL (by omega) (vl (u.drop k)) hU0 g.toNat g u3 (by omega) hg0 hg1 hd3 hl3 hhigh3 hH3 hUg (by rw [htop3]; omega) (by rw [htop3]; omega)
    have hg' := hg
    rw [htd] at hg'
    have h := LS.of ok7o (loM_0 a f n2 V L J k g g2 c2 ((digs V.natAbs).length : Int) u u2 u4 out) (by
      have hn0 : (!decide (vt = 0)) = true := by simp; omega
      simp only [hnat, hnat1, hnat2, hnat3, hnat4, ← hX, ← hvtd, htd, hg', hu3]
      rw [← hu3] at m8
      have hbd : X ≤ 9999999999999999 := by omega
      have hXa : u.getD (k + (digs V.natAbs).length) 0 * 100000000 ≤ 9999999900000000 := by omega
      have hXb : 0 ≤ u.getD (k + (digs V.natAbs).length) 0 * 100000000 := by omega
      have hvl : 0 < (digs V.natAbs).length := by omega
      rw [hu3] at m8
      exact (by (repeat' (first | exact AllC.nil | refine AllC.cons ?_ ?_)); all_goals (first | exact viaL_ok | ((with_reducible refine inR64.2 ?_); omega) | (with_reducible refine pFl ?_ ?_ <;> omega) | ((with_reducible refine decide_eq_true ?_); omega) | ((with_reducible refine decide_eq_false ?_); omega) | omega | (simp [hl, k2, hlo, hvl] <;> omega) | assumption | rfl)))
    rw [hnat3] at h
    have hv2 := vl_set out k g2 (by omega)
    rw [hz k (by omega), Int.sub_zero] at hv2
    have s4 := vl_split u4 k (by omega)
    rw [take_eq (by rw [m4, hl]) (fun q hq => (m5 q hq).trans (hlow3 q hq)), m6, Int.mul_sub] at s4
    have hA2 : vl u4 + (V.natAbs : Int) * vl (out.set k g2) = A := by
      rw [hv2, Int.mul_add]
      have e : (V.natAbs : Int) * (100000000 ^ k * g2) = 100000000 ^ k * (g2 * (V.natAbs : Int)) := by rw [Int.mul_left_comm, Int.mul_comm (V.natAbs : Int) g2]
      rw [e]
      omega
    obtain ⟨u5, o5, p1, p2, p3, p4, p5, p6, p7⟩ := ih u4 (out.set k g2) (by omega) (by omega) m3 m4 (Digs_set hdo _ m1 m2) (by simp; omega) (fun q hq => by
      rw [getD_set_ne _ _ _ _ (by omega)]; exact hz q (by omega)) m7 hA2
    exact ⟨u5, o5, p1, p2, p3, p4, p5, p6, Loops.go h p7⟩

end Go.Proofs.YtloaeinogiplbaaGreatDoor
end

section
open Go Go.Ev Go.RowKit
namespace Go.Proofs.YtloaeinogiplbaaGreatDoor
open Go.Proofs
set_option maxRecDepth 100000
set_option maxHeartbeats 1000000
set_option linter.unusedVariables false
set_option linter.unusedSimpArgs false


theorem twL_0 (na nb : Bool) (a b : Int) (n : Nat) (l : List Int) : rndA (mkCfg Tryz.prog ctr7 bw [107, 150]) 60 (lpOf Tryz.prog 150 0) 4 [] [0] [] (TW na nb a b n l) [true, true] [] = some (Ex.normal, ⟨sp 21 [(0, AV.own 3 0 (Int.toNat ((↑n : Int) - 1)) 1)], [Row.flat [AV.lit (Value.bool na), AV.wd a] true, Row.flat [AV.lit (Value.bool nb), AV.wd b] true, Row.flat [aF, aN] true, Row.ints l true], []⟩, [decide ((↑n : Int) > 0) = true, inR IntKind.i64 ((↑n : Int) - 1) = true, decide (0 ≤ (↑n : Int) - 1) = true, decide ((↑n : Int) - 1 < (↑n : Int)) = true, decide (0 + Int.toNat ((↑n : Int) - 1) * 1 < List.length l) = true, (List.getD l (0 + Int.toNat ((↑n : Int) - 1) * 1) 0 == 0) = true, inR IntKind.i64 ((↑n : Int) - 1) = true, decide (0 ≤ (↑n : Int) - 1) = true, decide ((↑n : Int) - 1 ≤ (↑n : Int)) = true]) := by kernel_rfl
theorem twL_1 (na nb : Bool) (a b : Int) (n : Nat) (l : List Int) : rndA (mkCfg Tryz.prog ctr7 bw [107, 150]) 60 (lpOf Tryz.prog 150 0) 4 [] [0] [] (TW na nb a b n l) [true, false] [] = some (Ex.exit 0, ⟨sp 21 [(0, AV.own 3 0 n 1)], [Row.flat [AV.lit (Value.bool na), AV.wd a] true, Row.flat [AV.lit (Value.bool nb), AV.wd b] true, Row.flat [aF, aN] true, Row.ints l true], []⟩, [decide ((↑n : Int) > 0) = true, inR IntKind.i64 ((↑n : Int) - 1) = true, decide (0 ≤ (↑n : Int) - 1) = true, decide ((↑n : Int) - 1 < (↑n : Int)) = true, decide (0 + Int.toNat ((↑n : Int) - 1) * 1 < List.length l) = true, (List.getD l (0 + Int.toNat ((↑n : Int) - 1) * 1) 0 == 0) = false]) := by kernel_rfl
theorem twL_2 (na nb : Bool) (a b : Int) (n : Nat) (l : List Int) : rndA (mkCfg Tryz.prog ctr7 bw [107, 150]) 60 (lpOf Tryz.prog 150 0) 4 [] [0] [] (TW na nb a b n l) [false] [] = some (Ex.exit 0, ⟨sp 21 [(0, AV.own 3 0 n 1)], [Row.flat [AV.lit (Value.bool na), AV.wd a] true, Row.flat [AV.lit (Value.bool nb), AV.wd b] true, Row.flat [aF, aN] true, Row.ints l true], []⟩, [decide ((↑n : Int) > 0) = false]) := by kernel_rfl
abbrev lg_2_s0 (a : Int) (f : Int) (V : Int) (n2 : Nat) (L : Nat) (J : Nat) (l : List Int) : St := ⟨sp 182 [(6, aI f), (7, AV.own 5 0 L 1), (8, AV.wd V), (9, aI (↑(List.length (digs (Int.natAbs V))) : Int)), (10, AV.own 6 0 J 1), (11, aI ((↑J : Int) - 1))], [Row.flat [aF, AV.wd a] true, Row.flat [aD f, AV.wd f] true, Row.flat [AV.lit (Value.bool (!(false == decide (f < 0)))), AV.own 3 0 n2 1] true, Row.dead, Row.ints [0, 0] true, Row.ints (List.take n2 l ++ [0, 0]) true, Row.ints (List.replicate J 0) true], [2, 3, 4, 5, 6]⟩
abbrev lg_2_s1 (a : Int) (f : Int) (V : Int) (n2 : Nat) (L : Nat) (J : Nat) (u2 : List Int) (out2 : List Int) : St := ⟨sp 182 [(6, aI f), (7, AV.own 5 0 L 1), (8, AV.wd V), (9, aI (↑(List.length (digs (Int.natAbs V))) : Int)), (10, AV.own 6 0 J 1), (11, aI (-1))], [Row.flat [aF, AV.wd a] true, Row.flat [aD f, AV.wd f] true, Row.flat [AV.lit (Value.bool (!(false == decide (f < 0)))), AV.own 3 0 n2 1] true, Row.dead, Row.ints [0, 0] true, Row.ints u2 true, Row.ints out2 true], [2, 3, 4, 5, 6]⟩
abbrev lg_2_s2 (a : Int) (f : Int) (n : Nat) : St := ⟨sp 86 [(2, AV.ref 0 0), (3, AV.ref 1 0), (4, AV.ref 2 0), (5, AV.own 3 0 n 1), (32, AV.wd a), (33, aI (↑(List.length (digs (Int.natAbs a))) : Int)), (34, aI 0)], [Row.flat [aF, AV.wd a] true, Row.flat [aD f, AV.wd f] true, Row.flat [aF, aN] true, Row.ints (List.replicate n 0) true], [3]⟩
abbrev lg_2_s3 (a : Int) (i : Int) (f : Int) (n : Nat) (l : List Int) : St := ⟨sp 86 [(2, AV.ref 0 0), (3, AV.ref 1 0), (4, AV.ref 2 0), (5, AV.own 3 0 n 1), (32, AV.wd a), (33, aI (↑(List.length (digs (Int.natAbs a))) : Int)), (34, aI i)], [Row.flat [aF, AV.wd a] true, Row.flat [aD f, AV.wd f] true, Row.flat [aF, aN] true, Row.ints l true], [3]⟩
theorem lg_2 (a b i f V : Int) (n n2 L J : Nat) (l u2 out2 : List Int) : funA (mkCfg Tryz.prog ctr7 bw [107, 150]) 60 176 [.wd a, .wd b] [false, false] [none, some (viaL Tryz.prog (lpOf Tryz.prog 107 0) [] [2,3,4,5,32,33,34] [3] (TO false (decide (f < 0)) a f 0 n (List.replicate n 0)) (.exit 0, TO false (decide (f < 0)) a f i n l)), none, some (viaL Tryz.prog (lpOf Tryz.prog 150 0) [] [0] [] (TW false (decide (f < 0)) a f n l) (.exit 0, TW false (decide (f < 0)) a f n2 l)), some dmy, some (viaL Tryz.prog (lpOf Tryz.prog 176 0) [] [6,7,8,9,10,11] [2,3,4,5,6] (LO a f n2 V L J ((J : Int) - 1) (l.take n2 ++ [0, 0]) (List.replicate J 0)) (.exit 0, LO a f n2 V L J (-1) u2 out2)), some dmy, some dmy] = some (AV.tup [AV.sq (trm (List.take J out2)), AV.wd (vl (trm (List.take L u2)) / f)], [inR IntKind.i64 ((↑(List.length (digs (Int.natAbs b))) : Int) - 1) = true, decide (0 ≤ (↑(List.length (digs (Int.natAbs b))) : Int) - 1) = true, decide ((↑(List.length (digs (Int.natAbs b))) : Int) - 1 < (↑(List.length (digs (Int.natAbs b))) : Int)) = true, decide (Int.toNat ((↑(List.length (digs (Int.natAbs b))) : Int) - 1) < List.length (digs (Int.natAbs b))) = true, inR IntKind.i64 (List.getD (digs (Int.natAbs b)) (Int.toNat ((↑(List.length (digs (Int.natAbs b))) : Int) - 1)) 0 + 1) = true, (!decide (List.getD (digs (Int.natAbs b)) (Int.toNat ((↑(List.length (digs (Int.natAbs b))) : Int) - 1)) 0 + 1 = 0)) = true, inR IntKind.i64 (Int.tdiv 100000000 (List.getD (digs (Int.natAbs b)) (Int.toNat ((↑(List.length (digs (Int.natAbs b))) : Int) - 1)) 0 + 1)) = true, pFloored (Int.tdiv 100000000 (List.getD (digs (Int.natAbs b)) (Int.toNat ((↑(List.length (digs (Int.natAbs b))) : Int) - 1)) 0 + 1)), ((↑(List.length (digs (Int.natAbs a))) : Int) == 0) = false, ((↑(List.length (digs (Int.natAbs (Int.tdiv 100000000 (List.getD (digs (Int.natAbs b)) (Int.toNat ((↑(List.length (digs (Int.natAbs b))) : Int) - 1)) 0 + 1))))) : Int) == 0) = false, inR IntKind.i64 ((↑(List.length (digs (Int.natAbs a))) : Int) + (↑(List.length (digs (Int.natAbs (Int.tdiv 100000000 (List.getD (digs (Int.natAbs b)) (Int.toNat ((↑(List.length (digs (Int.natAbs b))) : Int) - 1)) 0 + 1))))) : Int)) = true, decide (0 ≤ (↑(List.length (digs (Int.natAbs a))) : Int) + (↑(List.length (digs (Int.natAbs (Int.tdiv 100000000 (List.getD (digs (Int.natAbs b)) (Int.toNat ((↑(List.length (digs (Int.natAbs b))) : Int) - 1)) 0 + 1))))) : Int)) = true, decide ((↑(List.length (digs (Int.natAbs a))) : Int) + (↑(List.length (digs (Int.natAbs (Int.tdiv 100000000 (List.getD (digs (Int.natAbs b)) (Int.toNat ((↑(List.length (digs (Int.natAbs b))) : Int) - 1)) 0 + 1))))) : Int) ≤ (↑(List.length (digs (Int.natAbs a))) : Int) + (↑(List.length (digs (Int.natAbs (Int.tdiv 100000000 (List.getD (digs (Int.natAbs b)) (Int.toNat ((↑(List.length (digs (Int.natAbs b))) : Int) - 1)) 0 + 1))))) : Int)) = true, decide (8 * ((↑(List.length (digs (Int.natAbs a))) : Int) + (↑(List.length (digs (Int.natAbs (Int.tdiv 100000000 (List.getD (digs (Int.natAbs b)) (Int.toNat ((↑(List.length (digs (Int.natAbs b))) : Int) - 1)) 0 + 1))))) : Int)) ≤ 281474976710656) = true, decide ((↑(List.length (digs (Int.natAbs a))) : Int) + (↑(List.length (digs (Int.natAbs (Int.tdiv 100000000 (List.getD (digs (Int.natAbs b)) (Int.toNat ((↑(List.length (digs (Int.natAbs b))) : Int) - 1)) 0 + 1))))) : Int) ≤ 9223372036854775807) = true, LoopOK Tryz.prog (lpOf Tryz.prog 107 0) (viaL Tryz.prog (lpOf Tryz.prog 107 0) [] [2, 3, 4, 5, 32, 33, 34] [3] (lg_2_s2 a f n) (Ex.exit 0, (lg_2_s3 a i f n l))), (⟨sp 86 [(2, AV.ref 0 0), (3, AV.ref 1 0), (4, AV.ref 2 0), (5, AV.own 3 0 (Int.toNat ((↑(List.length (digs (Int.natAbs a))) : Int) + (↑(List.length (digs (Int.natAbs (Int.tdiv 100000000 (List.getD (digs (Int.natAbs b)) (Int.toNat ((↑(List.length (digs (Int.natAbs b))) : Int) - 1)) 0 + 1))))) : Int))) 1), (32, AV.wd a), (33, aI (↑(List.length (digs (Int.natAbs a))) : Int)), (34, aI 0)], [Row.flat [aF, AV.wd a] true, Row.flat [AV.lit (Value.bool (decide (Int.tdiv 100000000 (List.getD (digs (Int.natAbs b)) (Int.toNat ((↑(List.length (digs (Int.natAbs b))) : Int) - 1)) 0 + 1) < 0))), AV.wd (Int.tdiv 100000000 (List.getD (digs (Int.natAbs b)) (Int.toNat ((↑(List.length (digs (Int.natAbs b))) : Int) - 1)) 0 + 1))] true, Row.flat [aF, aN] true, Row.ints (List.replicate (Int.toNat ((↑(List.length (digs (Int.natAbs a))) : Int) + (↑(List.length (digs (Int.natAbs (Int.tdiv 100000000 (List.getD (digs (Int.natAbs b)) (Int.toNat ((↑(List.length (digs (Int.natAbs b))) : Int) - 1)) 0 + 1))))) : Int))) 0) true], [3]⟩ : St) = (lg_2_s2 a f n), Loops 4 Tryz.prog (lpOf Tryz.prog 107 0) (lg_2_s2 a f n) (Ex.exit 0, (lg_2_s3 a i f n l)), LoopOK Tryz.prog (lpOf Tryz.prog 150 0) (viaL Tryz.prog (lpOf Tryz.prog 150 0) [] [0] [] ⟨sp 21 [(0, AV.own 3 0 n 1)], [Row.flat [aF, AV.wd a] true, Row.flat [aD f, AV.wd f] true, Row.flat [aF, aN] true, Row.ints l true], []⟩ (Ex.exit 0, ⟨sp 21 [(0, AV.own 3 0 n2 1)], [Row.flat [aF, AV.wd a] true, Row.flat [aD f, AV.wd f] true, Row.flat [aF, aN] true, Row.ints l true], []⟩)), (⟨sp 21 [(0, AV.own 3 0 n 1)], [Row.flat [aF, AV.wd a] true, Row.flat [aD f, AV.wd f] true, Row.flat [aF, aN] true, Row.ints l true], []⟩ : St) = ⟨sp 21 [(0, AV.own 3 0 n 1)], [Row.flat [aF, AV.wd a] true, Row.flat [aD f, AV.wd f] true, Row.flat [aF, aN] true, Row.ints l true], []⟩, Loops 4 Tryz.prog (lpOf Tryz.prog 150 0) ⟨sp 21 [(0, AV.own 3 0 n 1)], [Row.flat [aF, AV.wd a] true, Row.flat [aD f, AV.wd f] true, Row.flat [aF, aN] true, Row.ints l true], []⟩ (Ex.exit 0, ⟨sp 21 [(0, AV.own 3 0 n2 1)], [Row.flat [aF, AV.wd a] true, Row.flat [aD f, AV.wd f] true, Row.flat [aF, aN] true, Row.ints l true], []⟩), decide ((n2 + 2) * 8 ≤ 140737488355328) = true, decide (n2 + 2 ≤ 4611686018427387904) = true, decide (n2 ≤ List.length l) = true, true = true, pFloored (Int.tdiv 100000000 (List.getD (digs (Int.natAbs b)) (Int.toNat ((↑(List.length (digs (Int.natAbs b))) : Int) - 1)) 0 + 1)), false = decide (b < 0), decide (Int.tdiv 100000000 (List.getD (digs (Int.natAbs b)) (Int.toNat ((↑(List.length (digs (Int.natAbs b))) : Int) - 1)) 0 + 1) < 0) = decide (Int.tdiv 100000000 (List.getD (digs (Int.natAbs b)) (Int.toNat ((↑(List.length (digs (Int.natAbs b))) : Int) - 1)) 0 + 1) < 0), pDD b (Int.tdiv 100000000 (List.getD (digs (Int.natAbs b)) (Int.toNat ((↑(List.length (digs (Int.natAbs b))) : Int) - 1)) 0 + 1)), inR IntKind.i64 ((↑(n2 + 2) : Int) - (↑(List.length (digs (Int.natAbs (b * Int.tdiv 100000000 (List.getD (digs (Int.natAbs b)) (Int.toNat ((↑(List.length (digs (Int.natAbs b))) : Int) - 1)) 0 + 1))))) : Int)) = true, decide (0 ≤ if (↑(n2 + 2) : Int) - (↑(List.length (digs (Int.natAbs (b * Int.tdiv 100000000 (List.getD (digs (Int.natAbs b)) (Int.toNat ((↑(List.length (digs (Int.natAbs b))) : Int) - 1)) 0 + 1))))) : Int) > 0 then (↑(n2 + 2) : Int) - (↑(List.length (digs (Int.natAbs (b * Int.tdiv 100000000 (List.getD (digs (Int.natAbs b)) (Int.toNat ((↑(List.length (digs (Int.natAbs b))) : Int) - 1)) 0 + 1))))) : Int) else 0) = true, decide ((if (↑(n2 + 2) : Int) - (↑(List.length (digs (Int.natAbs (b * Int.tdiv 100000000 (List.getD (digs (Int.natAbs b)) (Int.toNat ((↑(List.length (digs (Int.natAbs b))) : Int) - 1)) 0 + 1))))) : Int) > 0 then (↑(n2 + 2) : Int) - (↑(List.length (digs (Int.natAbs (b * Int.tdiv 100000000 (List.getD (digs (Int.natAbs b)) (Int.toNat ((↑(List.length (digs (Int.natAbs b))) : Int) - 1)) 0 + 1))))) : Int) else 0) ≤ if (↑(n2 + 2) : Int) - (↑(List.length (digs (Int.natAbs (b * Int.tdiv 100000000 (List.getD (digs (Int.natAbs b)) (Int.toNat ((↑(List.length (digs (Int.natAbs b))) : Int) - 1)) 0 + 1))))) : Int) > 0 then (↑(n2 + 2) : Int) - (↑(List.length (digs (Int.natAbs (b * Int.tdiv 100000000 (List.getD (digs (Int.natAbs b)) (Int.toNat ((↑(List.length (digs (Int.natAbs b))) : Int) - 1)) 0 + 1))))) : Int) else 0) = true, decide ((8 * if (↑(n2 + 2) : Int) - (↑(List.length (digs (Int.natAbs (b * Int.tdiv 100000000 (List.getD (digs (Int.natAbs b)) (Int.toNat ((↑(List.length (digs (Int.natAbs b))) : Int) - 1)) 0 + 1))))) : Int) > 0 then (↑(n2 + 2) : Int) - (↑(List.length (digs (Int.natAbs (b * Int.tdiv 100000000 (List.getD (digs (Int.natAbs b)) (Int.toNat ((↑(List.length (digs (Int.natAbs b))) : Int) - 1)) 0 + 1))))) : Int) else 0) ≤ 281474976710656) = true, decide ((if (↑(n2 + 2) : Int) - (↑(List.length (digs (Int.natAbs (b * Int.tdiv 100000000 (List.getD (digs (Int.natAbs b)) (Int.toNat ((↑(List.length (digs (Int.natAbs b))) : Int) - 1)) 0 + 1))))) : Int) > 0 then (↑(n2 + 2) : Int) - (↑(List.length (digs (Int.natAbs (b * Int.tdiv 100000000 (List.getD (digs (Int.natAbs b)) (Int.toNat ((↑(List.length (digs (Int.natAbs b))) : Int) - 1)) 0 + 1))))) : Int) else 0) ≤ 9223372036854775807) = true, inR IntKind.i64 ((↑(Int.toNat (if (↑(n2 + 2) : Int) - (↑(List.length (digs (Int.natAbs (b * Int.tdiv 100000000 (List.getD (digs (Int.natAbs b)) (Int.toNat ((↑(List.length (digs (Int.natAbs b))) : Int) - 1)) 0 + 1))))) : Int) > 0 then (↑(n2 + 2) : Int) - (↑(List.length (digs (Int.natAbs (b * Int.tdiv 100000000 (List.getD (digs (Int.natAbs b)) (Int.toNat ((↑(List.length (digs (Int.natAbs b))) : Int) - 1)) 0 + 1))))) : Int) else 0)) : Int) - 1) = true, LoopOK Tryz.prog (lpOf Tryz.prog 176 0) (viaL Tryz.prog (lpOf Tryz.prog 176 0) [] [6, 7, 8, 9, 10, 11] [2, 3, 4, 5, 6] (lg_2_s0 a f V n2 L J l) (Ex.exit 0, (lg_2_s1 a f V n2 L J u2 out2))), (⟨sp 182 [(6, aI (Int.tdiv 100000000 (List.getD (digs (Int.natAbs b)) (Int.toNat ((↑(List.length (digs (Int.natAbs b))) : Int) - 1)) 0 + 1))), (7, AV.own 5 0 (n2 + 2) 1), (8, AV.wd (b * Int.tdiv 100000000 (List.getD (digs (Int.natAbs b)) (Int.toNat ((↑(List.length (digs (Int.natAbs b))) : Int) - 1)) 0 + 1))), (9, aI (↑(List.length (digs (Int.natAbs (b * Int.tdiv 100000000 (List.getD (digs (Int.natAbs b)) (Int.toNat ((↑(List.length (digs (Int.natAbs b))) : Int) - 1)) 0 + 1))))) : Int)), (10, AV.own 6 0 (Int.toNat (if (↑(n2 + 2) : Int) - (↑(List.length (digs (Int.natAbs (b * Int.tdiv 100000000 (List.getD (digs (Int.natAbs b)) (Int.toNat ((↑(List.length (digs (Int.natAbs b))) : Int) - 1)) 0 + 1))))) : Int) > 0 then (↑(n2 + 2) : Int) - (↑(List.length (digs (Int.natAbs (b * Int.tdiv 100000000 (List.getD (digs (Int.natAbs b)) (Int.toNat ((↑(List.length (digs (Int.natAbs b))) : Int) - 1)) 0 + 1))))) : Int) else 0)) 1), (11, aI ((↑(Int.toNat (if (↑(n2 + 2) : Int) - (↑(List.length (digs (Int.natAbs (b * Int.tdiv 100000000 (List.getD (digs (Int.natAbs b)) (Int.toNat ((↑(List.length (digs (Int.natAbs b))) : Int) - 1)) 0 + 1))))) : Int) > 0 then (↑(n2 + 2) : Int) - (↑(List.length (digs (Int.natAbs (b * Int.tdiv 100000000 (List.getD (digs (Int.natAbs b)) (Int.toNat ((↑(List.length (digs (Int.natAbs b))) : Int) - 1)) 0 + 1))))) : Int) else 0)) : Int) - 1))], [Row.flat [aF, AV.wd a] true, Row.flat [aD f, AV.wd f] true, Row.flat [AV.lit (Value.bool (!(false == decide (f < 0)))), AV.own 3 0 n2 1] true, Row.dead, Row.ints [0, 0] true, Row.ints (List.take n2 l ++ List.take 2 [0, 0]) true, Row.ints (List.replicate (Int.toNat (if (↑(n2 + 2) : Int) - (↑(List.length (digs (Int.natAbs (b * Int.tdiv 100000000 (List.getD (digs (Int.natAbs b)) (Int.toNat ((↑(List.length (digs (Int.natAbs b))) : Int) - 1)) 0 + 1))))) : Int) > 0 then (↑(n2 + 2) : Int) - (↑(List.length (digs (Int.natAbs (b * Int.tdiv 100000000 (List.getD (digs (Int.natAbs b)) (Int.toNat ((↑(List.length (digs (Int.natAbs b))) : Int) - 1)) 0 + 1))))) : Int) else 0)) 0) true], [2, 3, 4, 5, 6]⟩ : St) = (lg_2_s0 a f V n2 L J l), Loops 7 Tryz.prog (lpOf Tryz.prog 176 0) (lg_2_s0 a f V n2 L J l) (Ex.exit 0, (lg_2_s1 a f V n2 L J u2 out2)), L ≤ List.length u2, short64 (List.take L u2), pShort (trm (List.take L u2)) f, J ≤ List.length out2, short64 (List.take J out2)]) := by kernel_rfl
theorem take_trm : ∀ l : List Int, l.take (trm l).length = trm l
  | [] => rfl
  | d :: l => by
    simp only [trm]
    split
    · rfl
    · simp [take_trm l]

theorem trimO (na nb : Bool) (a b : Int) (l : List Int) (hl : l.length ≤ 4611686018427387904) : ∀ (n : Nat), n ≤ l.length →
    Loops 4 Tryz.prog (lpOf Tryz.prog 150 0) (TW na nb a b n l) (.exit 0, TW na nb a b (trm (l.take n)).length l)
  | 0, hn => Loops.fin (LS.of ok7o (twL_2 na nb a b 0 l) (by (repeat' (first | exact AllC.nil | refine AllC.cons ?_ ?_)); all_goals (first | exact viaL_ok | ((with_reducible refine inR64.2 ?_); omega) | (with_reducible refine pFl ?_ ?_ <;> omega) | ((with_reducible refine decide_eq_true ?_); omega) | ((with_reducible refine decide_eq_false ?_); omega) | omega | (simp [] <;> omega) | assumption | rfl))) (by simp [Ex.toExit])
  | n + 1, hn => by
    have hnat : 0 + Int.toNat (((n + 1 : Nat) : Int) - 1) * 1 = n := by omega
    have hnat2 : Int.toNat (((n + 1 : Nat) : Int) - 1) = n := by omega
    have hlt : n < l.length := by omega
    have hg : l.getD n 0 = l[n] := by simp [List.getD, hlt]
    rw [List.take_succ_eq_append_getElem hlt, ← hg]
    by_cases hd : l.getD n 0 = 0
    · have hx : (l.getD n 0 == 0) = true := by rw [hd]; rfl
      have h := LS.of ok7o (twL_0 na nb a b (n + 1) l) (by
        rw [hnat]
        exact (by (repeat' (first | exact AllC.nil | refine AllC.cons ?_ ?_)); all_goals (first | exact viaL_ok | ((with_reducible refine inR64.2 ?_); omega) | (with_reducible refine pFl ?_ ?_ <;> omega) | ((with_reducible refine decide_eq_true ?_); omega) | ((with_reducible refine decide_eq_false ?_); omega) | omega | (simp [hx] <;> omega) | assumption | rfl)))
      rw [hnat2] at h
      rw [hd, trm_zero]
      exact Loops.go h (trimO na nb a b l hl n (by omega))
    · have hx : (l.getD n 0 == 0) = false := by simpa using hd
      have h := LS.of ok7o (twL_1 na nb a b (n + 1) l) (by
        rw [hnat]
        exact (by (repeat' (first | exact AllC.nil | refine AllC.cons ?_ ?_)); all_goals (first | exact viaL_ok | ((with_reducible refine inR64.2 ?_); omega) | (with_reducible refine pFl ?_ ?_ <;> omega) | ((with_reducible refine decide_eq_true ?_); omega) | ((with_reducible refine decide_eq_false ?_); omega) | omega | (simp [hx] <;> omega) | assumption | rfl)))
      rw [trm_last _ _ hd]
      have e : (l.take n ++ [l.getD n 0]).length = n + 1 := by simp; omega
      rw [e]
      exact Loops.fin h (by simp [Ex.toExit])

theorem pow_mono {m n : Nat} (h : m ≤ n) : (100000000 : Int) ^ m ≤ 100000000 ^ n := by
  have h2 := Int.ofNat_le.2 (Nat.pow_le_pow_right (show 0 < 100000000 by decide) h)
  rw [Int.natCast_pow, Int.natCast_pow] at h2
  exact h2
theorem pow_le_natAbs {V : Int} (h : V ≠ 0) : (100000000 : Int) ^ ((digs V.natAbs).length - 1) ≤ (V.natAbs : Int) := by
  have hp := dl_pos h
  rcases Nat.lt_or_ge V.natAbs (100000000 ^ ((digs V.natAbs).length - 1)) with h1 | h1
  · have := digs_length _ _ h1
    omega
  · have h2 := Int.ofNat_le.2 h1
    rw [Int.natCast_pow] at h2
    exact h2
theorem len_mono {m n : Nat} (h : m ≤ n) : (digs m).length ≤ (digs n).length := by
  rcases Nat.lt_or_ge (digs n).length (digs m).length with h1 | h1
  · have := lt_of_len h1; omega
  · exact h1
theorem digs_one {f : Int} (h0 : 0 < f) (h1 : f < 100000000) : (digs f.natAbs).length = 1 := by
  have h2 := digs_length f.natAbs 1 (by omega)
  have h3 := dl_pos (show f ≠ 0 by omega)
  omega

theorem long_nn (a b : Int) (ha : 0 < a) (hb : 0 < b) (hfa : fits a) (hfb : fits b) (h2 : 2 ≤ (digs b.natAbs).length) : FC Tryz.prog 176 [.wd a, .wd b] (.tup [.wd (a / b), .wd (a % b)]) := by
  have hfa' := hfa
  have hfb' := hfb
  unfold fits dl at hfa' hfb'
  have hnat2 : Int.toNat (((digs b.natAbs).length : Int) - 1) = (digs b.natAbs).length - 1 := by omega
  obtain ⟨bt, hbt⟩ : ∃ bt, (digs b.natAbs).getD ((digs b.natAbs).length - 1) 0 = bt := ⟨_, rfl⟩
  have hbt0 := last_ne (n := b.natAbs) (by omega)
  have hbt1 := (dig_getD (Digs_digs b.natAbs) ((digs b.natAbs).length - 1)).2
  rw [hbt] at hbt0 hbt1
  obtain ⟨f, hfd⟩ : ∃ f, Int.tdiv 100000000 (bt + 1) = f := ⟨_, rfl⟩
  have hfe : f = 100000000 / (bt + 1) := by rw [← hfd]; exact Int.tdiv_eq_ediv_of_nonneg (by decide)
  have hf0 : 1 ≤ f := by rw [hfe]; exact (Int.le_ediv_iff_mul_le (by omega)).2 (by omega)
  have hf1 : f ≤ 50000000 := by
    rw [hfe]
    have : 100000000 / (bt + 1) < 50000001 := Int.ediv_lt_of_lt_mul (by omega) (by omega)
    omega
  have hlf := digs_one (f := f) (by omega) (by omega)
  have hff : fits f := by unfold fits dl; omega
  obtain ⟨V, hVd⟩ : ∃ V, b * f = V := ⟨_, rfl⟩
  have hVb : b ≤ V := by
    have := Int.mul_le_mul_of_nonneg_left hf0 (show 0 ≤ b by omega)
    omega
  have hV0 : V ≠ 0 := by omega
  have hVn : (V.natAbs : Int) = V := by omega
  have hnv : (digs b.natAbs).length ≤ (digs V.natAbs).length := len_mono (by omega)
  have hnv2 : (digs V.natAbs).length ≤ (digs b.natAbs).length + 1 := by
    refine digs_length _ _ ?_
    rw [← hVd, Int.natAbs_mul, Nat.pow_succ]
    exact Nat.mul_lt_mul'' (digs_lt b.natAbs) (by omega)
  obtain ⟨n, hN⟩ : ∃ n, Int.toNat (((digs a.natAbs).length : Int) + ((digs f.natAbs).length : Int)) = n := ⟨_, rfl⟩
  have hN2 : n = (digs a.natAbs).length + (digs f.natAbs).length := by omega
  have hpa := dl_pos (show a ≠ 0 by omega)
  have hna := digs_ne (show a ≠ 0 by omega)
  have hnf := digs_ne (show f ≠ 0 by omega)
  have hz0 : ∀ m : Nat, Digs (List.replicate m 0) := fun m d hd => by
    have := List.eq_of_mem_replicate hd
    omega
  have hvz : ∀ m : Nat, vl (List.replicate m 0) = 0 := by
    intro m
    induction m with
    | zero => rfl
    | succ m ih => simp only [List.replicate_succ, vl, ih]; rfl
  have hgz : ∀ m j : Nat, (List.replicate m (0 : Int)).getD j 0 = 0 := fun m j => by
    simp [List.getD, List.getElem?_replicate]; split <;> rfl
  obtain ⟨l, k1, k2, k3, k4⟩ := timesO false (decide (f < 0)) a f hfa hff n hN2 (by omega) (digs a.natAbs).length 0 (List.replicate n 0) (by omega) (hz0 n) (by simp) (fun j _ => hgz n j)
  have hvl : vl l = a * f := by
    rw [k3, hvz, List.drop_zero, vl_digs, Int.pow_zero, Int.one_mul, Int.zero_add]
    rw [show (a.natAbs : Int) = a by omega, show (f.natAbs : Int) = f by omega]
  have k4o : Loops 4 Tryz.prog (lpOf Tryz.prog 107 0) (TO false (decide (f < 0)) a f 0 n (List.replicate n 0)) (.exit 0, TO false (decide (f < 0)) a f ((digs a.natAbs).length : Int) n l) := k4
  have hT := trimO false (decide (f < 0)) a f l (by omega) n (by omega)
  have hln : l.take n = l := by rw [← k2]; exact take_all l
  rw [hln] at hT
  obtain ⟨n2, hn2⟩ : ∃ n2, (trm l).length = n2 := ⟨_, rfl⟩
  rw [hn2] at hT
  have hn2l : n2 ≤ l.length := by rw [← hn2]; exact trm_length l
  have htk : l.take n2 = trm l := by rw [← hn2]; exact take_trm l
  obtain ⟨J, hJ⟩ : ∃ J, Int.toNat (if ((n2 + 2 : Nat) : Int) - ((digs V.natAbs).length : Int) > 0 then ((n2 + 2 : Nat) : Int) - ((digs V.natAbs).length : Int) else 0) = J := ⟨_, rfl⟩
  have hJ2 : J = n2 + 2 - (digs V.natAbs).length := by rw [← hJ]; split <;> omega
  have hDu : Digs (l.take n2 ++ [0, 0]) := by
    rw [htk]
    intro d hd
    rcases List.mem_append.1 hd with h | h
    · exact k1.trm d h
    · simp at h; subst h; omega
  have hvu : vl (l.take n2 ++ [0, 0]) = a * f := by
    rw [vl_append, htk, vl_trm, hvl]; simp [vl]
  have hlu : (l.take n2 ++ [(0 : Int), 0]).length = n2 + 2 := by simp; omega
  have hwin : vl ((l.take n2 ++ [(0 : Int), 0]).drop J) < (V.natAbs : Int) := by
    have hJle : J ≤ (l.take n2).length := by simp; omega
    rw [List.drop_append_of_le_length hJle, vl_append]
    have h1 := vl_lt (Digs_drop (Digs_take k1 n2) J)
    have h2 : ((l.take n2).drop J).length ≤ (digs V.natAbs).length - 1 := by simp; omega
    have h3 := pow_mono h2
    have h4 := pow_le_natAbs hV0
    simp only [vl, Int.mul_zero, Int.add_zero]
    omega
  obtain ⟨u2, o2, p1, p2, p3, p4, p5, p6, p7⟩ := mainL a f n2 V (n2 + 2) J (by omega) hV0 (by omega) (a * f) J (l.take n2 ++ [0, 0]) (List.replicate J 0) (Nat.le_refl _) (by omega) hDu hlu (hz0 J) (by simp) (fun q _ => hgz J q) hwin (by rw [hvz, hvu]; simp)
  have e1 : List.take (n2 + 2) u2 = u2 := by rw [← p2]; exact take_all u2
  have e2 : List.take J o2 = o2 := by rw [← p4]; exact take_all o2
  have hpd : pDD b f := ⟨hfb, hff⟩
  have hps : pShort (trm u2) f := ⟨p1.trm, by have := trm_length u2; omega, by omega, by omega⟩
  have hbn : false = decide (b < 0) := by simp; omega
  have hpf : pFloored f := ⟨by omega, by omega⟩
  have hb0 : (!decide (bt + 1 = 0)) = true := by simp; omega
  have := fc_fun ok7o (lg_2 a b ((digs a.natAbs).length : Int) f V n n2 (n2 + 2) J l u2 o2) (by
    simp only [hnat2, hbt, hfd, hVd, hN, hJ, e1, e2]
    have hif : (if ((n2 + 2 : Nat) : Int) - ((digs V.natAbs).length : Int) > 0 then ((n2 + 2 : Nat) : Int) - ((digs V.natAbs).length : Int) else 0) = (J : Int) := by
      rw [← hJ]; split <;> omega
    simp only [hif]
    exact (by (repeat' (first | exact AllC.nil | refine AllC.cons ?_ ?_)); all_goals (first | exact viaL_ok | ((with_reducible refine inR64.2 ?_); omega) | (with_reducible refine pFl ?_ ?_ <;> omega) | ((with_reducible refine decide_eq_true ?_); omega) | ((with_reducible refine decide_eq_false ?_); omega) | omega | (simp [hna, hnf, p2, p4, short64] <;> omega) | assumption | rfl)))
  rw [e1, e2] at this
  rw [hVn] at p5 p6
  have hu0 := vl_nonneg p1
  have hmul : V * vl o2 = b * (f * vl o2) := by rw [← hVd, Int.mul_assoc]
  have hdiv : a / b = vl o2 := by
    rw [← Int.mul_ediv_mul_of_pos_left a b (show 0 < f by omega), hVd, ← p6, Int.add_mul_ediv_left _ _ hV0, Int.ediv_eq_zero_of_lt hu0 p5, Int.zero_add]
  have hmod : f * (a % b) = vl u2 := by
    rw [← Int.mul_emod_mul_of_pos a b (show 0 < f by omega), Int.mul_comm f a, Int.mul_comm f b, hVd, ← p6, Int.add_mul_emod_self_left, Int.emod_eq_of_lt hu0 p5]
  have ho0 := vl_nonneg p3
  refine this.res fun E v hv => hv.tup2 (fun u hu => hu.toWd rfl ?_) (fun u hu => ?_)
  · rw [trm_digs p3, hdiv]; congr 1; omega
  · have : vl (trm u2) / f = a % b := by rw [vl_trm, ← hmod]; exact Int.mul_ediv_cancel_left _ (by omega)
    rw [this] at hu
    exact hu

theorem Rd.natAbs {E : Env} {a b : Int} {v : Value} (h : a.natAbs = b.natAbs) (hr : Rd E (.wd a) v) : Rd E (.wd b) v := hr.toWd (l := digs a.natAbs) rfl (by rw [h])
def pLong (a b : Int) : Prop := a ≠ 0 ∧ fits a ∧ fits b ∧ 2 ≤ (digs b.natAbs).length
theorem long_fc (a b : Int) (h : pLong a b) : FC Tryz.prog 176 [.wd a, .wd b] (.tup [.wd ((a.natAbs : Int) / (b.natAbs : Int)), .wd ((a.natAbs : Int) % (b.natAbs : Int))]) := by
  obtain ⟨h0, h1, h2, h3⟩ := h
  have hb0 : b ≠ 0 := by
    rintro rfl
    simp [digs_zero] at h3
  have h1' : fits (a.natAbs : Int) := by unfold fits dl at *; simpa using h1
  have h2' : fits (b.natAbs : Int) := by unfold fits dl at *; simpa using h2
  exact (long_nn (a.natAbs : Int) (b.natAbs : Int) (by omega) (by omega) h1' h2' (by simpa using h3)).arg2 (fun E v h => Rd.natAbs (by simp) h) (fun E v h => Rd.natAbs (by simp) h)

def ctr9 : Ctr := (176, cDD pLong (fun a b => .tup [.wd ((a.natAbs : Int) / (b.natAbs : Int)), .wd ((a.natAbs : Int) % (b.natAbs : Int))])) :: ctr7
theorem ctr9_all : ∀ p ∈ ctr9, CtrOK Tryz.prog p.1 p.2 := CAll.cons (cDD_ok long_fc) ctr7_all
theorem ok9 : (mkCfg Tryz.prog ctr9 bw).OK := cfg_ok ctr9_all

end Go.Proofs.YtloaeinogiplbaaGreatDoor
end
