/- Part of a proof about a given program: see the last module of the claim. -/
import Derived.RangeFuncBox
import Derived.RangeFuncLeaves
import Derived.WalkKit
import Derived.OwnWalkIn
import Derived.TacticsInMore
import Derived.LoopNIn
import Derived.LoopIn
import Derived.Test.YtcpgkgldibobeaaGreatDoorProg
import Derived.Test.YtcpgkgldibobeaaGreatDoorB
section
open Go Go.Ev Go.RowKit
namespace Go.Proofs.YtcpgkgldibobeaaGreatDoor
open Go.Proofs
attribute [local go_sem] Oper.semAt_some
set_option maxRecDepth 100000
set_option maxHeartbeats 2000000

theorem bwI : BwOK Tryz.prog 169 1 := by
  refine ⟨fun args w => run_callFunc Tryz.func169 rfl rfl args w, ?_⟩
  intro l Bs oB a n cap vals J Jx W hn hcell hplace hkeep hY h0
  obtain ⟨F, hF⟩ : ∃ F, F = fen none := ⟨_, rfl⟩
  rw [← hF] at hY ⊢
  have hfn : F.fn 169 := by rw [hF]; trivial
  have hro : F.round = none := by rw [hF]; rfl
  have hdep : (F.depth.isSome = true → 1 ≤ 0) := by rw [hF]; intro h; cases h
  have hdep' : F.depth = none := by rw [hF]; rfl
  clear hF
  refine callsIn_of_wp Tryz.func169 rfl hfn ?_ hro
  simp only [Tryz.ntmps169, List.size_toArray, List.length_cons, List.length_nil, Nat.reduceAdd, Nat.reduceSub, Array.replicate_succ, Array.replicate_zero, List.push_toArray, List.append_toArray, List.nil_append, List.cons_append]
  gi_wp2
  gi_loopw [3] (fun i wr => ∃ k : Nat, k ≤ n ∧ i = .int .i64 ((k : Int) - 1) ∧ J k wr)
    (fun i _ => (intOf i + 1).toNat)
  case atStart => exact ⟨n, Nat.le_refl _, by simp, h0⟩
  case round =>
    obtain ⟨k, hk, rfl, hJs⟩ := hrel
    have hcB : wr.cell? ⟨Bs, oB, none⟩ = some (.slice a n cap) := (World.cell?_of_block (w := W) (a := ⟨Bs, oB, none⟩) (hkeep k wr hJs).1).trans hcell
    by_cases hlt : 0 < k
    · obtain ⟨k, rfl⟩ : ∃ j, k = j + 1 := ⟨k - 1, by omega⟩
      have hn0 : n ≠ 0 := by omega
      obtain ⟨b, o, rfl, hb⟩ := hplace.resolve_left hn0
      have hcx : wr.cell? ⟨b, o + k, none⟩ = some (vals k) := (World.cell?_of_block (w := W) (a := ⟨b, o + k, none⟩) ((hkeep _ wr hJs).2 b o rfl hn0)).trans (hb k (by omega))
      obtain ⟨fn, tmps, assign, body, hy, hR⟩ := hY k wr (by omega) hJs
      rw [show encV 1 vals k = vals k from rfl] at hy
      gi_wp2
      refine hR.mono ?_
      rintro e W3 (⟨rfl, hJ3⟩ | ⟨rfl, hJx3⟩)
      · gi_wp2
        go_roundw
        case rel => exact ⟨k, by omega, by simp, hJ3⟩
        case measure => simp [intOf]
      · gi_wp2
        refine bodyPost_ret (results_none rfl _ _ _) rfl ?_
        exact ⟨⟨_, rfl⟩, .inr hJx3⟩
    · obtain rfl : k = 0 := by omega
      gi_wp2
      go_end0
      exact ⟨⟨_, rfl⟩, .inl hJs⟩

theorem bwW : BwOK Tryz.prog 193 2 := by
  refine ⟨fun args w => run_callFunc Tryz.func193 rfl rfl args w, ?_⟩
  intro l Bs oB a n cap vals J Jx W hn hcell hplace hkeep hY h0
  obtain ⟨F, hF⟩ : ∃ F, F = fen none := ⟨_, rfl⟩
  rw [← hF] at hY ⊢
  have hfn : F.fn 193 := by rw [hF]; trivial
  have hro : F.round = none := by rw [hF]; rfl
  have hdep : (F.depth.isSome = true → 1 ≤ 0) := by rw [hF]; intro h; cases h
  have hdep' : F.depth = none := by rw [hF]; rfl
  clear hF
  refine callsIn_of_wp Tryz.func193 rfl hfn ?_ hro
  simp only [Tryz.ntmps193, List.size_toArray, List.length_cons, List.length_nil, Nat.reduceAdd, Nat.reduceSub, Array.replicate_succ, Array.replicate_zero, List.push_toArray, List.append_toArray, List.nil_append, List.cons_append]
  gi_wp2
  gi_loopw [3] (fun i wr => ∃ k : Nat, k ≤ n ∧ i = .int .i64 ((k : Int) - 1) ∧ J k wr)
    (fun i _ => (intOf i + 1).toNat)
  case atStart => exact ⟨n, Nat.le_refl _, by simp, h0⟩
  case round =>
    obtain ⟨k, hk, rfl, hJs⟩ := hrel
    have hcB : wr.cell? ⟨Bs, oB, none⟩ = some (.slice a n cap) := (World.cell?_of_block (w := W) (a := ⟨Bs, oB, none⟩) (hkeep k wr hJs).1).trans hcell
    by_cases hlt : 0 < k
    · obtain ⟨k, rfl⟩ : ∃ j, k = j + 1 := ⟨k - 1, by omega⟩
      have hn0 : n ≠ 0 := by omega
      obtain ⟨b, o, rfl, hb⟩ := hplace.resolve_left hn0
      have hcx : wr.cell? ⟨b, o + k * 2, none⟩ = some (vals (2 * k)) := (World.cell?_of_block (w := W) (a := ⟨b, o + k * 2, none⟩) ((hkeep _ wr hJs).2 b o rfl hn0)).trans (by rw [Nat.mul_comm k 2]; exact hb (2 * k) (by omega))
      have hcy : wr.cell? ⟨b, o + k * 2 + 1, none⟩ = some (vals (2 * k + 1)) := (World.cell?_of_block (w := W) (a := ⟨b, o + k * 2 + 1, none⟩) ((hkeep _ wr hJs).2 b o rfl hn0)).trans (by rw [Nat.mul_comm k 2]; exact hb (2 * k + 1) (by omega))
      obtain ⟨fn, tmps, assign, body, hy, hR⟩ := hY k wr (by omega) hJs
      rw [show encV 2 vals k = .agg #[vals (2 * k), vals (2 * k + 1)] from rfl] at hy
      gi_wp2
      refine hR.mono ?_
      rintro e W3 (⟨rfl, hJ3⟩ | ⟨rfl, hJx3⟩)
      · gi_wp2
        go_roundw
        case rel => exact ⟨k, by omega, by simp, hJ3⟩
        case measure => simp [intOf]
      · gi_wp2
        refine bodyPost_ret (results_none rfl _ _ _) rfl ?_
        exact ⟨⟨_, rfl⟩, .inr hJx3⟩
    · obtain rfl : k = 0 := by omega
      gi_wp2
      go_end0
      exact ⟨⟨_, rfl⟩, .inl hJs⟩
theorem bwP : BwOK Tryz.prog 195 2 := by
  refine ⟨fun args w => run_callFunc Tryz.func195 rfl rfl args w, ?_⟩
  intro l Bs oB a n cap vals J Jx W hn hcell hplace hkeep hY h0
  obtain ⟨F, hF⟩ : ∃ F, F = fen none := ⟨_, rfl⟩
  rw [← hF] at hY ⊢
  have hfn : F.fn 195 := by rw [hF]; trivial
  have hro : F.round = none := by rw [hF]; rfl
  have hdep : (F.depth.isSome = true → 1 ≤ 0) := by rw [hF]; intro h; cases h
  have hdep' : F.depth = none := by rw [hF]; rfl
  clear hF
  refine callsIn_of_wp Tryz.func195 rfl hfn ?_ hro
  simp only [Tryz.ntmps195, List.size_toArray, List.length_cons, List.length_nil, Nat.reduceAdd, Nat.reduceSub, Array.replicate_succ, Array.replicate_zero, List.push_toArray, List.append_toArray, List.nil_append, List.cons_append]
  gi_wp2
  gi_loopw [3] (fun i wr => ∃ k : Nat, k ≤ n ∧ i = .int .i64 ((k : Int) - 1) ∧ J k wr)
    (fun i _ => (intOf i + 1).toNat)
  case atStart => exact ⟨n, Nat.le_refl _, by simp, h0⟩
  case round =>
    obtain ⟨k, hk, rfl, hJs⟩ := hrel
    have hcB : wr.cell? ⟨Bs, oB, none⟩ = some (.slice a n cap) := (World.cell?_of_block (w := W) (a := ⟨Bs, oB, none⟩) (hkeep k wr hJs).1).trans hcell
    by_cases hlt : 0 < k
    · obtain ⟨k, rfl⟩ : ∃ j, k = j + 1 := ⟨k - 1, by omega⟩
      have hn0 : n ≠ 0 := by omega
      obtain ⟨b, o, rfl, hb⟩ := hplace.resolve_left hn0
      have hcx : wr.cell? ⟨b, o + k * 2, none⟩ = some (vals (2 * k)) := (World.cell?_of_block (w := W) (a := ⟨b, o + k * 2, none⟩) ((hkeep _ wr hJs).2 b o rfl hn0)).trans (by rw [Nat.mul_comm k 2]; exact hb (2 * k) (by omega))
      have hcy : wr.cell? ⟨b, o + k * 2 + 1, none⟩ = some (vals (2 * k + 1)) := (World.cell?_of_block (w := W) (a := ⟨b, o + k * 2 + 1, none⟩) ((hkeep _ wr hJs).2 b o rfl hn0)).trans (by rw [Nat.mul_comm k 2]; exact hb (2 * k + 1) (by omega))
      obtain ⟨fn, tmps, assign, body, hy, hR⟩ := hY k wr (by omega) hJs
      rw [show encV 2 vals k = .agg #[vals (2 * k), vals (2 * k + 1)] from rfl] at hy
      gi_wp2
      refine hR.mono ?_
      rintro e W3 (⟨rfl, hJ3⟩ | ⟨rfl, hJx3⟩)
      · gi_wp2
        go_roundw
        case rel => exact ⟨k, by omega, by simp, hJ3⟩
        case measure => simp [intOf]
      · gi_wp2
        refine bodyPost_ret (results_none rfl _ _ _) rfl ?_
        exact ⟨⟨_, rfl⟩, .inr hJx3⟩
    · obtain rfl : k = 0 := by omega
      gi_wp2
      go_end0
      exact ⟨⟨_, rfl⟩, .inl hJs⟩
end Go.Proofs.YtcpgkgldibobeaaGreatDoor
end

section
open Go Go.Ev Go.RowKit
namespace Go.Proofs.YtcpgkgldibobeaaGreatDoor
open Go.Proofs
set_option maxRecDepth 100000
theorem mixed : Tryz.prog.follows .mixedOrders = true := by kernel_rfl
theorem names : NamesOK Tryz.prog := by unfold NamesOK; kernel_rfl
def bw : List (FuncId × Nat) := [(169, 1), (193, 2), (195, 2)]
theorem bw_ok : ∀ p ∈ bw, BwOK Tryz.prog p.1 p.2 := by
  intro p hp
  simp only [bw, List.mem_cons, List.not_mem_nil, or_false] at hp
  rcases hp with rfl | rfl | rfl
  · exact bwI
  · exact bwW
  · exact bwP
theorem cfg_ok {l : Ctr} {opt : List FuncId} (hl : ∀ p ∈ l, CtrOK Tryz.prog p.1 p.2) : (mkCfg Tryz.prog l bw opt).OK := mkCfg_ok names mixed hl bw_ok
end Go.Proofs.YtcpgkgldibobeaaGreatDoor
end

section
open Go Go.Ev Go.RowKit
namespace Go.Proofs.YtcpgkgldibobeaaGreatDoor
open Go.Proofs
set_option maxRecDepth 100000
set_option maxHeartbeats 1000000
set_option linter.unusedVariables false
set_option linter.unusedSimpArgs false

theorem floored_0 (n : Int) : funA (mkCfg Tryz.prog [] bw) 60 152 [.lit (.int .i64 n)] [true] [] = some (AV.tup [AV.lit (Value.int IntKind.i64 (Int.tdiv n 100000000 - 1)), AV.lit (Value.int IntKind.i64 (Int.tmod n 100000000 + 100000000))], [true = true, inR IntKind.i64 (Int.tdiv n 100000000) = true, true = true, decide (Int.tmod n 100000000 < 0) = true, inR IntKind.i64 (Int.tdiv n 100000000 - 1) = true, inR IntKind.i64 (Int.tmod n 100000000 + 100000000) = true]) := by kernel_rfl
theorem floored_1 (n : Int) : funA (mkCfg Tryz.prog [] bw) 60 152 [.lit (.int .i64 n)] [false] [] = some (AV.tup [AV.lit (Value.int IntKind.i64 (Int.tdiv n 100000000)), AV.lit (Value.int IntKind.i64 (Int.tmod n 100000000))], [true = true, inR IntKind.i64 (Int.tdiv n 100000000) = true, true = true, decide (Int.tmod n 100000000 < 0) = false]) := by kernel_rfl
theorem trimL_0 (l : List Int) : rndA (mkCfg Tryz.prog [] bw) 60 (lpOf Tryz.prog 153 0) 0 [] [0] [] ⟨sp 21 [(0, .sq l)], [], []⟩ [true, true] [] = some (Ex.normal, ⟨sp 21 [(0, AV.sq (List.drop 0 (List.take (Int.toNat ((↑(List.length l) : Int) - 1)) l)))], [], []⟩, [decide ((↑(List.length l) : Int) > 0) = true, inR IntKind.i64 ((↑(List.length l) : Int) - 1) = true, decide (0 ≤ (↑(List.length l) : Int) - 1) = true, decide ((↑(List.length l) : Int) - 1 < (↑(List.length l) : Int)) = true, decide (Int.toNat ((↑(List.length l) : Int) - 1) < List.length l) = true, (List.getD l (Int.toNat ((↑(List.length l) : Int) - 1)) 0 == 0) = true, inR IntKind.i64 ((↑(List.length l) : Int) - 1) = true, true = true, decide (0 ≤ (↑(List.length l) : Int) - 1) = true, decide ((↑(List.length l) : Int) - 1 ≤ (↑(List.length l) : Int)) = true]) := by kernel_rfl
theorem trimL_1 (l : List Int) : rndA (mkCfg Tryz.prog [] bw) 60 (lpOf Tryz.prog 153 0) 0 [] [0] [] ⟨sp 21 [(0, .sq l)], [], []⟩ [true, false] [] = some (Ex.exit 0, ⟨sp 21 [(0, AV.sq l)], [], []⟩, [decide ((↑(List.length l) : Int) > 0) = true, inR IntKind.i64 ((↑(List.length l) : Int) - 1) = true, decide (0 ≤ (↑(List.length l) : Int) - 1) = true, decide ((↑(List.length l) : Int) - 1 < (↑(List.length l) : Int)) = true, decide (Int.toNat ((↑(List.length l) : Int) - 1) < List.length l) = true, (List.getD l (Int.toNat ((↑(List.length l) : Int) - 1)) 0 == 0) = false]) := by kernel_rfl
theorem trimL_2 (l : List Int) : rndA (mkCfg Tryz.prog [] bw) 60 (lpOf Tryz.prog 153 0) 0 [] [0] [] ⟨sp 21 [(0, .sq l)], [], []⟩ [false] [] = some (Ex.exit 0, ⟨sp 21 [(0, AV.sq l)], [], []⟩, [decide ((↑(List.length l) : Int) > 0) = false]) := by kernel_rfl
theorem trim_0 (l : List Int) (r : List Int) : funA (mkCfg Tryz.prog [] bw) 60 153 [AV.sq l] [] [some (viaL Tryz.prog (lpOf Tryz.prog 153 0) [] [0] [] ⟨sp 21 [(0, .sq l)], [], []⟩ (.exit 0, ⟨sp 21 [(0, .sq r)], [], []⟩))] = some (AV.sq r, [LoopOK Tryz.prog (lpOf Tryz.prog 153 0) (viaL Tryz.prog (lpOf Tryz.prog 153 0) [] [0] [] ⟨sp 21 [(0, AV.sq l)], [], []⟩ (Ex.exit 0, ⟨sp 21 [(0, AV.sq r)], [], []⟩)), (⟨sp 21 [(0, AV.sq l)], [], []⟩ : St) = ⟨sp 21 [(0, AV.sq l)], [], []⟩, Loops 0 Tryz.prog (lpOf Tryz.prog 153 0) ⟨sp 21 [(0, AV.sq l)], [], []⟩ (Ex.exit 0, ⟨sp 21 [(0, AV.sq r)], [], []⟩)]) := by kernel_rfl
theorem ok0 : (mkCfg Tryz.prog [] bw).OK := cfg_ok CAll.nil

def pFloored (n : Int) : Prop := -9223372036854775808 ≤ n ∧ n ≤ 9223372036854775807
instance decFloored {n : Int} : Decidable (pFloored n) := inferInstanceAs (Decidable (_ ∧ _))
def rFloored (n : Int) : AV := .tup [.lit (.int .i64 (n / 100000000)), .lit (.int .i64 (n % 100000000))]
theorem floored_fc (n : Int) (h : pFloored n) : FC Tryz.prog 152 [.lit (.int .i64 n)] (rFloored n) := by
  obtain ⟨h1, h2⟩ := h
  have ht := Int.mul_tdiv_add_tmod n 100000000
  by_cases hn : Int.tmod n 100000000 < 0
  · have hp : n < 0 := by
      rcases Int.lt_or_le n 0 with h | h
      · exact h
      · have := Int.tmod_nonneg 100000000 h; omega
    have hb : -100000000 < Int.tmod n 100000000 := by
      have := Int.lt_tmod_of_pos n (show (0 : Int) < 100000000 by decide); omega
    have e1 : Int.tdiv n 100000000 - 1 = n / 100000000 := by omega
    have e2 : Int.tmod n 100000000 + 100000000 = n % 100000000 := by omega
    have := fc_fun ok0 (floored_0 n) (.cons (by simp) (.cons (inR64.2 (by omega)) (.cons (by simp) (.cons (by simpa using hn) (.cons (inR64.2 (by omega)) (.cons (inR64.2 (by omega)) .nil))))))
    rw [e1, e2] at this
    exact this
  · have hb : Int.tmod n 100000000 < 100000000 := Int.tmod_lt_of_pos n (by decide)
    have e1 : Int.tdiv n 100000000 = n / 100000000 := by omega
    have e2 : Int.tmod n 100000000 = n % 100000000 := by omega
    have := fc_fun ok0 (floored_1 n) (.cons (by simp) (.cons (inR64.2 (by omega)) (.cons (by simp) (.cons (by simpa using hn) .nil))))
    rw [e1, e2] at this
    exact this

/-- A bound on lengths. -/
def short64 (l : List Int) : Prop := l.length ≤ 4611686018427387904

theorem trim_loops : ∀ (n : Nat) (l : List Int), l.length = n → short64 l → Loops 0 Tryz.prog (lpOf Tryz.prog 153 0) ⟨sp 21 [(0, .sq l)], [], []⟩ (.exit 0, ⟨sp 21 [(0, .sq (trm l))], [], []⟩)
  | 0, l, hn, hs => by
    have : l = [] := List.eq_nil_of_length_eq_zero hn
    subst this
    exact Loops.fin (LS.of ok0 (trimL_2 []) (.cons (by simp) .nil)) (by simp [Ex.toExit])
  | n + 1, l, hn, hs => by
    obtain ⟨a, d, rfl⟩ : ∃ a d, l = a ++ [d] := by
      rcases List.eq_nil_or_concat l with rfl | ⟨a, d, h⟩
      · cases hn
      · exact ⟨a, d, by simpa using h⟩
    have hlen : (a ++ [d]).length = a.length + 1 := by simp
    unfold short64 at hs
    have hnat : Int.toNat (((a ++ [d]).length : Int) - 1) = a.length := by omega
    have hget : (a ++ [d]).getD (Int.toNat (((a ++ [d]).length : Int) - 1)) 0 = d := by rw [hnat]; simp [List.getD]
    by_cases hd : d = 0
    · subst hd
      have e : List.drop 0 (List.take (Int.toNat (((a ++ [(0 : Int)]).length : Int) - 1)) (a ++ [0])) = a := by rw [hnat]; simp
      have hgo := LS.of ok0 (trimL_0 (a ++ [0])) (by (repeat' (first | exact AllC.nil | refine AllC.cons ?_ ?_)); all_goals (first | exact viaL_ok | ((with_reducible refine inR64.2 ?_); omega) | (with_reducible refine pFl ?_ ?_ <;> omega) | ((with_reducible refine decide_eq_true ?_); omega) | ((with_reducible refine decide_eq_false ?_); omega) | omega | (simp [hnat, hget] <;> omega) | assumption | rfl))
      rw [e] at hgo
      rw [trm_zero]
      exact Loops.go hgo (trim_loops n a (by omega) (by unfold short64; omega))
    · have hgo := LS.of ok0 (trimL_1 (a ++ [d])) (by (repeat' (first | exact AllC.nil | refine AllC.cons ?_ ?_)); all_goals (first | exact viaL_ok | ((with_reducible refine inR64.2 ?_); omega) | (with_reducible refine pFl ?_ ?_ <;> omega) | ((with_reducible refine decide_eq_true ?_); omega) | ((with_reducible refine decide_eq_false ?_); omega) | omega | (simp [hnat, hget, hd] <;> omega) | assumption | rfl))
      rw [trm_last a d hd]
      exact Loops.fin hgo (by simp [Ex.toExit])
theorem trim_fc (l : List Int) (h : short64 l) : FC Tryz.prog 153 [.sq l] (.sq (trm l)) :=
  fc_fun ok0 (trim_0 l (trm l)) (.cons viaL_ok (.cons rfl (.cons (trim_loops _ l rfl h) .nil)))

def ctr1 : Ctr := [(152, cI pFloored rFloored), (153, cL short64 (fun l => .sq (trm l)))]
theorem ctr1_all : ∀ p ∈ ctr1, CtrOK Tryz.prog p.1 p.2 := CAll.cons (cI_ok floored_fc) (CAll.cons (cL_ok trim_fc) CAll.nil)
theorem ok1 : (mkCfg Tryz.prog ctr1 bw).OK := cfg_ok ctr1_all

end Go.Proofs.YtcpgkgldibobeaaGreatDoor
end

section
open Go Go.Ev
namespace Go.Proofs.YtcpgkgldibobeaaGreatDoor
open Go.Proofs
abbrev SN (x : List Int) : St := ⟨sp 92 [(0, .sq x), (2, .ref 0 0), (3, .lit (.slice none 0 0)), (4, .lit (.int .i64 0)), (5, .lit (.int .i64 0))], [.flat [.lit (.bool false), .lit (.slice none 0 0)] true], []⟩
abbrev SR (x : List Int) (i c : Int) (n : Nat) (out : List Int) : St := ⟨sp 92 [(0, .sq x), (2, .ref 0 0), (3, .own 1 0 n 1), (4, .lit (.int .i64 c)), (5, .lit (.int .i64 i))], [.flat [.lit (.bool false), .lit (.slice none 0 0)] true, .ints out true], []⟩
abbrev SC (b k : Int) (n : Nat) (out : List Int) : St := ⟨sp 92 [(2, .ref 0 0), (3, .own 1 0 n 1), (10, .lit (.int .i64 b)), (58, .own 1 0 n 1), (59, .lit (.int .i64 (n : Int))), (60, .lit (.int .i64 k))], [.flat [.lit (.bool false), .lit (.slice none 0 0)] true, .ints out true], [1]⟩
end Go.Proofs.YtcpgkgldibobeaaGreatDoor
end

section
open Go Go.Ev Go.RowKit
namespace Go.Proofs.YtcpgkgldibobeaaGreatDoor
open Go.Proofs
set_option maxRecDepth 100000
set_option maxHeartbeats 1000000
set_option linter.unusedVariables false
set_option linter.unusedSimpArgs false

theorem readN_0 (x : List Int) : rndA (mkCfg Tryz.prog ctr1 bw) 60 (lpOf Tryz.prog 104 0) 1 [2] [0, 2, 3, 4, 5] [] ⟨sp 92 [(0,.sq x),(2,.ref 0 0),(3,.lit (.slice none 0 0)),(4,.lit (.int .i64 0)),(5, .lit (.int .i64 0))], [.flat [.lit (.bool false), .lit (.slice none 0 0)] true], []⟩ [true, true] [] = some (Ex.normal, ⟨sp 92 [(0, AV.sq x), (2, AV.ref 0 0), (3, AV.own 1 0 1 1), (4, AV.lit (Value.int IntKind.i64 (List.getD x 0 0 / 100000000 + (List.getD x 0 0 % 100000000 + 0) / 100000000))), (5, AV.lit (Value.int IntKind.i64 1))], [Row.flat [AV.lit (Value.bool false), AV.lit (Value.slice none 0 0)] true, Row.ints [(List.getD x 0 0 % 100000000 + 0) % 100000000] true], []⟩, [decide (0 < (↑(List.length x) : Int)) = true, decide (0 < (↑(List.length x) : Int)) = true, true = true, decide (0 < (↑(List.length x) : Int)) = true, decide (0 < List.length x) = true, pFloored (List.getD x 0 0), inR IntKind.i64 (List.getD x 0 0 % 100000000 + 0) = true, pFloored (List.getD x 0 0 % 100000000 + 0), true = true, true = true, true = true, decide (List.length (List.take 1 [(List.getD x 0 0 % 100000000 + 0) % 100000000]) = 1) = true, inR IntKind.i64 (List.getD x 0 0 / 100000000 + (List.getD x 0 0 % 100000000 + 0) / 100000000) = true, true = true]) := by kernel_rfl
theorem readE_2 (x : List Int) : rndA (mkCfg Tryz.prog ctr1 bw) 60 (lpOf Tryz.prog 104 0) 1 [] [0, 2, 3, 4, 5] [] ⟨sp 92 [(0,.sq x),(2,.ref 0 0),(3,.lit (.slice none 0 0)),(4,.lit (.int .i64 0)),(5, .lit (.int .i64 0))], [.flat [.lit (.bool false), .lit (.slice none 0 0)] true], []⟩ [false, false] [] = some (Ex.exit 0, ⟨sp 92 [(0, AV.sq x), (2, AV.ref 0 0), (3, AV.lit (Value.slice none 0 0)), (4, AV.lit (Value.int IntKind.i64 0)), (5, AV.lit (Value.int IntKind.i64 0))], [Row.flat [AV.lit (Value.bool false), AV.lit (Value.slice none 0 0)] true], []⟩, [decide (0 < (↑(List.length x) : Int)) = false, false = false]) := by kernel_rfl
theorem readS_0 (x : List Int) (i c : Int) (n : Nat) (out : List Int) : rndA (mkCfg Tryz.prog ctr1 bw) 60 (lpOf Tryz.prog 104 0) 1 [3] [0, 2, 3, 4, 5] [] ⟨sp 92 [(0,.sq x),(2,.ref 0 0),(3,.own 1 0 n 1),(4,.lit (.int .i64 c)),(5, .lit (.int .i64 i))], [.flat [.lit (.bool false), .lit (.slice none 0 0)] true, .ints out true], []⟩ [true, true] [] = some (Ex.normal, ⟨sp 92 [(0, AV.sq x), (2, AV.ref 0 0), (3, AV.own 1 0 (n + 1) 1), (4, AV.lit (Value.int IntKind.i64 (List.getD x (Int.toNat i) 0 / 100000000 + (List.getD x (Int.toNat i) 0 % 100000000 + c) / 100000000))), (5, AV.lit (Value.int IntKind.i64 (i + 1)))], [Row.flat [AV.lit (Value.bool false), AV.lit (Value.slice none 0 0)] true, Row.ints (List.take n out ++ List.take 1 [(List.getD x (Int.toNat i) 0 % 100000000 + c) % 100000000]) true], []⟩, [decide (i < (↑(List.length x) : Int)) = true, decide (i < (↑(List.length x) : Int)) = true, decide (0 ≤ i) = true, decide (i < (↑(List.length x) : Int)) = true, decide (Int.toNat i < List.length x) = true, pFloored (List.getD x (Int.toNat i) 0), inR IntKind.i64 (List.getD x (Int.toNat i) 0 % 100000000 + c) = true, pFloored (List.getD x (Int.toNat i) 0 % 100000000 + c), decide ((n + 1) * 8 ≤ 140737488355328) = true, decide (n + 1 ≤ 4611686018427387904) = true, decide (n ≤ List.length out) = true, decide (List.length (List.take 1 [(List.getD x (Int.toNat i) 0 % 100000000 + c) % 100000000]) = 1) = true, inR IntKind.i64 (List.getD x (Int.toNat i) 0 / 100000000 + (List.getD x (Int.toNat i) 0 % 100000000 + c) / 100000000) = true, inR IntKind.i64 (i + 1) = true]) := by kernel_rfl
theorem readS_3 (x : List Int) (i c : Int) (n : Nat) (out : List Int) : rndA (mkCfg Tryz.prog ctr1 bw) 60 (lpOf Tryz.prog 104 0) 1 [3] [0, 2, 3, 4, 5] [] ⟨sp 92 [(0,.sq x),(2,.ref 0 0),(3,.own 1 0 n 1),(4,.lit (.int .i64 c)),(5, .lit (.int .i64 i))], [.flat [.lit (.bool false), .lit (.slice none 0 0)] true, .ints out true], []⟩ [false, true, true, false] [] = some (Ex.normal, ⟨sp 92 [(0, AV.sq x), (2, AV.ref 0 0), (3, AV.own 1 0 (n + 1) 1), (4, AV.lit (Value.int IntKind.i64 (0 + (0 + c) / 100000000))), (5, AV.lit (Value.int IntKind.i64 (i + 1)))], [Row.flat [AV.lit (Value.bool false), AV.lit (Value.slice none 0 0)] true, Row.ints (List.take n out ++ List.take 1 [(0 + c) % 100000000]) true], []⟩, [decide (i < (↑(List.length x) : Int)) = false, (c != 0) = true, (c != -1) = true, decide (i < (↑(List.length x) : Int)) = false, inR IntKind.i64 (0 + c) = true, pFloored (0 + c), decide ((n + 1) * 8 ≤ 140737488355328) = true, decide (n + 1 ≤ 4611686018427387904) = true, decide (n ≤ List.length out) = true, decide (List.length (List.take 1 [(0 + c) % 100000000]) = 1) = true, inR IntKind.i64 (0 + (0 + c) / 100000000) = true, inR IntKind.i64 (i + 1) = true]) := by kernel_rfl
theorem readX_4 (x : List Int) (i c : Int) (n : Nat) (out : List Int) : rndA (mkCfg Tryz.prog ctr1 bw) 60 (lpOf Tryz.prog 104 0) 1 [1] [0, 2, 3, 4, 5] [] ⟨sp 92 [(0,.sq x),(2,.ref 0 0),(3,.own 1 0 n 1),(4,.lit (.int .i64 c)),(5, .lit (.int .i64 i))], [.flat [.lit (.bool false), .lit (.slice none 0 0)] true, .ints out true], []⟩ [false, true, false] [] = some (Ex.exit 0, ⟨sp 92 [(0, AV.sq x), (2, AV.ref 0 0), (3, AV.own 1 0 n 1), (4, AV.lit (Value.int IntKind.i64 c)), (5, AV.lit (Value.int IntKind.i64 i))], [Row.flat [AV.lit (Value.bool false), AV.lit (Value.slice none 0 0)] true, Row.ints out true], []⟩, [decide (i < (↑(List.length x) : Int)) = false, (c != 0) = true, (c != -1) = false]) := by kernel_rfl
theorem readX_5 (x : List Int) (i c : Int) (n : Nat) (out : List Int) : rndA (mkCfg Tryz.prog ctr1 bw) 60 (lpOf Tryz.prog 104 0) 1 [1] [0, 2, 3, 4, 5] [] ⟨sp 92 [(0,.sq x),(2,.ref 0 0),(3,.own 1 0 n 1),(4,.lit (.int .i64 c)),(5, .lit (.int .i64 i))], [.flat [.lit (.bool false), .lit (.slice none 0 0)] true, .ints out true], []⟩ [false, false] [] = some (Ex.exit 0, ⟨sp 92 [(0, AV.sq x), (2, AV.ref 0 0), (3, AV.own 1 0 n 1), (4, AV.lit (Value.int IntKind.i64 c)), (5, AV.lit (Value.int IntKind.i64 i))], [Row.flat [AV.lit (Value.bool false), AV.lit (Value.slice none 0 0)] true, Row.ints out true], []⟩, [decide (i < (↑(List.length x) : Int)) = false, (c != 0) = false]) := by kernel_rfl
theorem readC_0 (b k : Int) (n : Nat) (out : List Int) : rndA (mkCfg Tryz.prog ctr1 bw) 60 (lpOf Tryz.prog 104 1) 2 [] [2, 3, 10, 58, 59, 60] [1] ⟨sp 92 [(2,.ref 0 0),(3,.own 1 0 n 1),(10,.lit (.int .i64 b)),(58,.own 1 0 n 1),(59,.lit (.int .i64 n)),(60, .lit (.int .i64 k))], [.flat [.lit (.bool false), .lit (.slice none 0 0)] true, .ints out true], [1]⟩ [true, true] [] = some (Ex.normal, ⟨sp 92 [(2, AV.ref 0 0), (3, AV.own 1 0 n 1), (10, AV.lit (Value.int IntKind.i64 1)), (58, AV.own 1 0 n 1), (59, AV.lit (Value.int IntKind.i64 (↑n : Int))), (60, AV.lit (Value.int IntKind.i64 (k + 1)))], [Row.flat [AV.lit (Value.bool false), AV.lit (Value.slice none 0 0)] true, Row.ints (List.set (List.set out (0 + Int.toNat k * 1) (0 - List.getD out (0 + Int.toNat k * 1) 0 - b)) (0 + Int.toNat k * 1) (List.getD (List.set out (0 + Int.toNat k * 1) (0 - List.getD out (0 + Int.toNat k * 1) 0 - b)) (0 + Int.toNat k * 1) 0 + 100000000)) true], [1]⟩, [decide (k < (↑n : Int)) = true, decide (0 ≤ k) = true, decide (k < (↑n : Int)) = true, decide (0 + Int.toNat k * 1 < List.length out) = true, inR IntKind.i64 (0 - List.getD out (0 + Int.toNat k * 1) 0) = true, inR IntKind.i64 (0 - List.getD out (0 + Int.toNat k * 1) 0 - b) = true, decide (0 ≤ k) = true, decide (k < (↑n : Int)) = true, decide (0 + Int.toNat k * 1 < List.length out) = true, decide (0 ≤ k) = true, decide (k < (↑n : Int)) = true, decide (0 + Int.toNat k * 1 < List.length (List.set out (0 + Int.toNat k * 1) (0 - List.getD out (0 + Int.toNat k * 1) 0 - b))) = true, decide (List.getD (List.set out (0 + Int.toNat k * 1) (0 - List.getD out (0 + Int.toNat k * 1) 0 - b)) (0 + Int.toNat k * 1) 0 < 0) = true, decide (0 ≤ k) = true, decide (k < (↑n : Int)) = true, decide (0 + Int.toNat k * 1 < List.length (List.set out (0 + Int.toNat k * 1) (0 - List.getD out (0 + Int.toNat k * 1) 0 - b))) = true, inR IntKind.i64 (List.getD (List.set out (0 + Int.toNat k * 1) (0 - List.getD out (0 + Int.toNat k * 1) 0 - b)) (0 + Int.toNat k * 1) 0 + 100000000) = true, decide (0 ≤ k) = true, decide (k < (↑n : Int)) = true, decide (0 + Int.toNat k * 1 < List.length (List.set out (0 + Int.toNat k * 1) (0 - List.getD out (0 + Int.toNat k * 1) 0 - b))) = true, inR IntKind.i64 (k + 1) = true]) := by kernel_rfl
theorem readC_1 (b k : Int) (n : Nat) (out : List Int) : rndA (mkCfg Tryz.prog ctr1 bw) 60 (lpOf Tryz.prog 104 1) 2 [] [2, 3, 10, 58, 59, 60] [1] ⟨sp 92 [(2,.ref 0 0),(3,.own 1 0 n 1),(10,.lit (.int .i64 b)),(58,.own 1 0 n 1),(59,.lit (.int .i64 n)),(60, .lit (.int .i64 k))], [.flat [.lit (.bool false), .lit (.slice none 0 0)] true, .ints out true], [1]⟩ [true, false] [] = some (Ex.normal, ⟨sp 92 [(2, AV.ref 0 0), (3, AV.own 1 0 n 1), (10, AV.lit (Value.int IntKind.i64 0)), (58, AV.own 1 0 n 1), (59, AV.lit (Value.int IntKind.i64 (↑n : Int))), (60, AV.lit (Value.int IntKind.i64 (k + 1)))], [Row.flat [AV.lit (Value.bool false), AV.lit (Value.slice none 0 0)] true, Row.ints (List.set out (0 + Int.toNat k * 1) (0 - List.getD out (0 + Int.toNat k * 1) 0 - b)) true], [1]⟩, [decide (k < (↑n : Int)) = true, decide (0 ≤ k) = true, decide (k < (↑n : Int)) = true, decide (0 + Int.toNat k * 1 < List.length out) = true, inR IntKind.i64 (0 - List.getD out (0 + Int.toNat k * 1) 0) = true, inR IntKind.i64 (0 - List.getD out (0 + Int.toNat k * 1) 0 - b) = true, decide (0 ≤ k) = true, decide (k < (↑n : Int)) = true, decide (0 + Int.toNat k * 1 < List.length out) = true, decide (0 ≤ k) = true, decide (k < (↑n : Int)) = true, decide (0 + Int.toNat k * 1 < List.length (List.set out (0 + Int.toNat k * 1) (0 - List.getD out (0 + Int.toNat k * 1) 0 - b))) = true, decide (List.getD (List.set out (0 + Int.toNat k * 1) (0 - List.getD out (0 + Int.toNat k * 1) 0 - b)) (0 + Int.toNat k * 1) 0 < 0) = false, inR IntKind.i64 (k + 1) = true]) := by kernel_rfl
theorem readC_2 (b k : Int) (n : Nat) (out : List Int) : rndA (mkCfg Tryz.prog ctr1 bw) 60 (lpOf Tryz.prog 104 1) 2 [] [2, 3, 10, 58, 59, 60] [1] ⟨sp 92 [(2,.ref 0 0),(3,.own 1 0 n 1),(10,.lit (.int .i64 b)),(58,.own 1 0 n 1),(59,.lit (.int .i64 n)),(60, .lit (.int .i64 k))], [.flat [.lit (.bool false), .lit (.slice none 0 0)] true, .ints out true], [1]⟩ [false] [] = some (Ex.exit 2, ⟨sp 92 [(2, AV.ref 0 0), (3, AV.own 1 0 n 1), (10, AV.lit (Value.int IntKind.i64 b)), (58, AV.own 1 0 n 1), (59, AV.lit (Value.int IntKind.i64 (↑n : Int))), (60, AV.lit (Value.int IntKind.i64 k))], [Row.flat [AV.lit (Value.bool false), AV.lit (Value.slice none 0 0)] true, Row.ints out true], [1]⟩, [decide (k < (↑n : Int)) = false]) := by kernel_rfl
theorem readF_0 (x : List Int) (i : Int) (out : List Int) (n : Nat) : funA (mkCfg Tryz.prog ctr1 bw) 60 104 [.sq x] [true] [some (viaL Tryz.prog (lpOf Tryz.prog 104 0) [] [0,2,3,4,5] [] (SN x) (.exit 0, SR x i 0 n out))] = some (AV.agg [AV.lit (Value.bool false), AV.sq (trm (List.take n out))], [LoopOK Tryz.prog (lpOf Tryz.prog 104 0) (viaL Tryz.prog (lpOf Tryz.prog 104 0) [] [0, 2, 3, 4, 5] [] ⟨sp 92 [(0, AV.sq x), (2, AV.ref 0 0), (3, AV.lit (Value.slice none 0 0)), (4, AV.lit (Value.int IntKind.i64 0)), (5, AV.lit (Value.int IntKind.i64 0))], [Row.flat [AV.lit (Value.bool false), AV.lit (Value.slice none 0 0)] true], []⟩ (Ex.exit 0, ⟨sp 92 [(0, AV.sq x), (2, AV.ref 0 0), (3, AV.own 1 0 n 1), (4, AV.lit (Value.int IntKind.i64 0)), (5, AV.lit (Value.int IntKind.i64 i))], [Row.flat [AV.lit (Value.bool false), AV.lit (Value.slice none 0 0)] true, Row.ints out true], []⟩)), (⟨sp 92 [(0, AV.sq x), (2, AV.ref 0 0), (3, AV.lit (Value.slice none 0 0)), (4, AV.lit (Value.int IntKind.i64 0)), (5, AV.lit (Value.int IntKind.i64 0))], [Row.flat [AV.lit (Value.bool false), AV.lit (Value.slice none 0 0)] true], []⟩ : St) = ⟨sp 92 [(0, AV.sq x), (2, AV.ref 0 0), (3, AV.lit (Value.slice none 0 0)), (4, AV.lit (Value.int IntKind.i64 0)), (5, AV.lit (Value.int IntKind.i64 0))], [Row.flat [AV.lit (Value.bool false), AV.lit (Value.slice none 0 0)] true], []⟩, Loops 1 Tryz.prog (lpOf Tryz.prog 104 0) ⟨sp 92 [(0, AV.sq x), (2, AV.ref 0 0), (3, AV.lit (Value.slice none 0 0)), (4, AV.lit (Value.int IntKind.i64 0)), (5, AV.lit (Value.int IntKind.i64 0))], [Row.flat [AV.lit (Value.bool false), AV.lit (Value.slice none 0 0)] true], []⟩ (Ex.exit 0, ⟨sp 92 [(0, AV.sq x), (2, AV.ref 0 0), (3, AV.own 1 0 n 1), (4, AV.lit (Value.int IntKind.i64 0)), (5, AV.lit (Value.int IntKind.i64 i))], [Row.flat [AV.lit (Value.bool false), AV.lit (Value.slice none 0 0)] true, Row.ints out true], []⟩), true = true, n ≤ List.length out, short64 (List.take n out)]) := by kernel_rfl
theorem readG_0 (x : List Int) : funA (mkCfg Tryz.prog ctr1 bw) 60 104 [.sq x] [true] [some (viaL Tryz.prog (lpOf Tryz.prog 104 0) [] [0,2,3,4,5] [] (SN x) (.exit 0, SN x))] = some (AV.agg [AV.lit (Value.bool false), AV.sq []], [LoopOK Tryz.prog (lpOf Tryz.prog 104 0) (viaL Tryz.prog (lpOf Tryz.prog 104 0) [] [0, 2, 3, 4, 5] [] ⟨sp 92 [(0, AV.sq x), (2, AV.ref 0 0), (3, AV.lit (Value.slice none 0 0)), (4, AV.lit (Value.int IntKind.i64 0)), (5, AV.lit (Value.int IntKind.i64 0))], [Row.flat [AV.lit (Value.bool false), AV.lit (Value.slice none 0 0)] true], []⟩ (Ex.exit 0, ⟨sp 92 [(0, AV.sq x), (2, AV.ref 0 0), (3, AV.lit (Value.slice none 0 0)), (4, AV.lit (Value.int IntKind.i64 0)), (5, AV.lit (Value.int IntKind.i64 0))], [Row.flat [AV.lit (Value.bool false), AV.lit (Value.slice none 0 0)] true], []⟩)), (⟨sp 92 [(0, AV.sq x), (2, AV.ref 0 0), (3, AV.lit (Value.slice none 0 0)), (4, AV.lit (Value.int IntKind.i64 0)), (5, AV.lit (Value.int IntKind.i64 0))], [Row.flat [AV.lit (Value.bool false), AV.lit (Value.slice none 0 0)] true], []⟩ : St) = ⟨sp 92 [(0, AV.sq x), (2, AV.ref 0 0), (3, AV.lit (Value.slice none 0 0)), (4, AV.lit (Value.int IntKind.i64 0)), (5, AV.lit (Value.int IntKind.i64 0))], [Row.flat [AV.lit (Value.bool false), AV.lit (Value.slice none 0 0)] true], []⟩, Loops 1 Tryz.prog (lpOf Tryz.prog 104 0) ⟨sp 92 [(0, AV.sq x), (2, AV.ref 0 0), (3, AV.lit (Value.slice none 0 0)), (4, AV.lit (Value.int IntKind.i64 0)), (5, AV.lit (Value.int IntKind.i64 0))], [Row.flat [AV.lit (Value.bool false), AV.lit (Value.slice none 0 0)] true], []⟩ (Ex.exit 0, ⟨sp 92 [(0, AV.sq x), (2, AV.ref 0 0), (3, AV.lit (Value.slice none 0 0)), (4, AV.lit (Value.int IntKind.i64 0)), (5, AV.lit (Value.int IntKind.i64 0))], [Row.flat [AV.lit (Value.bool false), AV.lit (Value.slice none 0 0)] true], []⟩), true = true, short64 []]) := by kernel_rfl
theorem readH_0 (x : List Int) (i : Int) (out out2 : List Int) (n : Nat) (b : Int) (k : Int) : funA (mkCfg Tryz.prog ctr1 bw) 60 104 [.sq x] [false, true] [some (viaL Tryz.prog (lpOf Tryz.prog 104 0) [] [0,2,3,4,5] [] (SN x) (.exit 0, SR x i (-1) n out)), some (viaL Tryz.prog (lpOf Tryz.prog 104 1) [] [2,3,10,58,59,60] [1] (SC 0 0 n out) (.exit 2, SC b k n out2))] = some (AV.agg [AV.tt, AV.sq (trm (List.take (n + 1) (List.take n out2 ++ List.take 1 [1])))], [LoopOK Tryz.prog (lpOf Tryz.prog 104 0) (viaL Tryz.prog (lpOf Tryz.prog 104 0) [] [0, 2, 3, 4, 5] [] ⟨sp 92 [(0, AV.sq x), (2, AV.ref 0 0), (3, AV.lit (Value.slice none 0 0)), (4, AV.lit (Value.int IntKind.i64 0)), (5, AV.lit (Value.int IntKind.i64 0))], [Row.flat [AV.lit (Value.bool false), AV.lit (Value.slice none 0 0)] true], []⟩ (Ex.exit 0, ⟨sp 92 [(0, AV.sq x), (2, AV.ref 0 0), (3, AV.own 1 0 n 1), (4, AV.lit (Value.int IntKind.i64 (-1))), (5, AV.lit (Value.int IntKind.i64 i))], [Row.flat [AV.lit (Value.bool false), AV.lit (Value.slice none 0 0)] true, Row.ints out true], []⟩)), (⟨sp 92 [(0, AV.sq x), (2, AV.ref 0 0), (3, AV.lit (Value.slice none 0 0)), (4, AV.lit (Value.int IntKind.i64 0)), (5, AV.lit (Value.int IntKind.i64 0))], [Row.flat [AV.lit (Value.bool false), AV.lit (Value.slice none 0 0)] true], []⟩ : St) = ⟨sp 92 [(0, AV.sq x), (2, AV.ref 0 0), (3, AV.lit (Value.slice none 0 0)), (4, AV.lit (Value.int IntKind.i64 0)), (5, AV.lit (Value.int IntKind.i64 0))], [Row.flat [AV.lit (Value.bool false), AV.lit (Value.slice none 0 0)] true], []⟩, Loops 1 Tryz.prog (lpOf Tryz.prog 104 0) ⟨sp 92 [(0, AV.sq x), (2, AV.ref 0 0), (3, AV.lit (Value.slice none 0 0)), (4, AV.lit (Value.int IntKind.i64 0)), (5, AV.lit (Value.int IntKind.i64 0))], [Row.flat [AV.lit (Value.bool false), AV.lit (Value.slice none 0 0)] true], []⟩ (Ex.exit 0, ⟨sp 92 [(0, AV.sq x), (2, AV.ref 0 0), (3, AV.own 1 0 n 1), (4, AV.lit (Value.int IntKind.i64 (-1))), (5, AV.lit (Value.int IntKind.i64 i))], [Row.flat [AV.lit (Value.bool false), AV.lit (Value.slice none 0 0)] true, Row.ints out true], []⟩), false = false, LoopOK Tryz.prog (lpOf Tryz.prog 104 1) (viaL Tryz.prog (lpOf Tryz.prog 104 1) [] [2, 3, 10, 58, 59, 60] [1] ⟨sp 92 [(2, AV.ref 0 0), (3, AV.own 1 0 n 1), (10, AV.lit (Value.int IntKind.i64 0)), (58, AV.own 1 0 n 1), (59, AV.lit (Value.int IntKind.i64 (↑n : Int))), (60, AV.lit (Value.int IntKind.i64 0))], [Row.flat [AV.lit (Value.bool false), AV.lit (Value.slice none 0 0)] true, Row.ints out true], [1]⟩ (Ex.exit 2, ⟨sp 92 [(2, AV.ref 0 0), (3, AV.own 1 0 n 1), (10, AV.lit (Value.int IntKind.i64 b)), (58, AV.own 1 0 n 1), (59, AV.lit (Value.int IntKind.i64 (↑n : Int))), (60, AV.lit (Value.int IntKind.i64 k))], [Row.flat [AV.lit (Value.bool false), AV.lit (Value.slice none 0 0)] true, Row.ints out2 true], [1]⟩)), (⟨sp 92 [(2, AV.ref 0 0), (3, AV.own 1 0 n 1), (10, AV.lit (Value.int IntKind.i64 0)), (58, AV.own 1 0 n 1), (59, AV.lit (Value.int IntKind.i64 (↑n : Int))), (60, AV.lit (Value.int IntKind.i64 0))], [Row.flat [AV.lit (Value.bool false), AV.lit (Value.slice none 0 0)] true, Row.ints out true], [1]⟩ : St) = ⟨sp 92 [(2, AV.ref 0 0), (3, AV.own 1 0 n 1), (10, AV.lit (Value.int IntKind.i64 0)), (58, AV.own 1 0 n 1), (59, AV.lit (Value.int IntKind.i64 (↑n : Int))), (60, AV.lit (Value.int IntKind.i64 0))], [Row.flat [AV.lit (Value.bool false), AV.lit (Value.slice none 0 0)] true, Row.ints out true], [1]⟩, Loops 2 Tryz.prog (lpOf Tryz.prog 104 1) ⟨sp 92 [(2, AV.ref 0 0), (3, AV.own 1 0 n 1), (10, AV.lit (Value.int IntKind.i64 0)), (58, AV.own 1 0 n 1), (59, AV.lit (Value.int IntKind.i64 (↑n : Int))), (60, AV.lit (Value.int IntKind.i64 0))], [Row.flat [AV.lit (Value.bool false), AV.lit (Value.slice none 0 0)] true, Row.ints out true], [1]⟩ (Ex.exit 2, ⟨sp 92 [(2, AV.ref 0 0), (3, AV.own 1 0 n 1), (10, AV.lit (Value.int IntKind.i64 b)), (58, AV.own 1 0 n 1), (59, AV.lit (Value.int IntKind.i64 (↑n : Int))), (60, AV.lit (Value.int IntKind.i64 k))], [Row.flat [AV.lit (Value.bool false), AV.lit (Value.slice none 0 0)] true, Row.ints out2 true], [1]⟩), (b == 0) = true, decide ((n + 1) * 8 ≤ 140737488355328) = true, decide (n + 1 ≤ 4611686018427387904) = true, decide (n ≤ List.length out2) = true, true = true, n + 1 ≤ List.length (List.take n out2 ++ List.take 1 [1]), short64 (List.take (n + 1) (List.take n out2 ++ List.take 1 [1]))]) := by kernel_rfl
theorem readH_1 (x : List Int) (i : Int) (out out2 : List Int) (n : Nat) (b : Int) (k : Int) : funA (mkCfg Tryz.prog ctr1 bw) 60 104 [.sq x] [false, false] [some (viaL Tryz.prog (lpOf Tryz.prog 104 0) [] [0,2,3,4,5] [] (SN x) (.exit 0, SR x i (-1) n out)), some (viaL Tryz.prog (lpOf Tryz.prog 104 1) [] [2,3,10,58,59,60] [1] (SC 0 0 n out) (.exit 2, SC b k n out2))] = some (AV.agg [AV.tt, AV.sq (trm (List.take n out2))], [LoopOK Tryz.prog (lpOf Tryz.prog 104 0) (viaL Tryz.prog (lpOf Tryz.prog 104 0) [] [0, 2, 3, 4, 5] [] ⟨sp 92 [(0, AV.sq x), (2, AV.ref 0 0), (3, AV.lit (Value.slice none 0 0)), (4, AV.lit (Value.int IntKind.i64 0)), (5, AV.lit (Value.int IntKind.i64 0))], [Row.flat [AV.lit (Value.bool false), AV.lit (Value.slice none 0 0)] true], []⟩ (Ex.exit 0, ⟨sp 92 [(0, AV.sq x), (2, AV.ref 0 0), (3, AV.own 1 0 n 1), (4, AV.lit (Value.int IntKind.i64 (-1))), (5, AV.lit (Value.int IntKind.i64 i))], [Row.flat [AV.lit (Value.bool false), AV.lit (Value.slice none 0 0)] true, Row.ints out true], []⟩)), (⟨sp 92 [(0, AV.sq x), (2, AV.ref 0 0), (3, AV.lit (Value.slice none 0 0)), (4, AV.lit (Value.int IntKind.i64 0)), (5, AV.lit (Value.int IntKind.i64 0))], [Row.flat [AV.lit (Value.bool false), AV.lit (Value.slice none 0 0)] true], []⟩ : St) = ⟨sp 92 [(0, AV.sq x), (2, AV.ref 0 0), (3, AV.lit (Value.slice none 0 0)), (4, AV.lit (Value.int IntKind.i64 0)), (5, AV.lit (Value.int IntKind.i64 0))], [Row.flat [AV.lit (Value.bool false), AV.lit (Value.slice none 0 0)] true], []⟩, Loops 1 Tryz.prog (lpOf Tryz.prog 104 0) ⟨sp 92 [(0, AV.sq x), (2, AV.ref 0 0), (3, AV.lit (Value.slice none 0 0)), (4, AV.lit (Value.int IntKind.i64 0)), (5, AV.lit (Value.int IntKind.i64 0))], [Row.flat [AV.lit (Value.bool false), AV.lit (Value.slice none 0 0)] true], []⟩ (Ex.exit 0, ⟨sp 92 [(0, AV.sq x), (2, AV.ref 0 0), (3, AV.own 1 0 n 1), (4, AV.lit (Value.int IntKind.i64 (-1))), (5, AV.lit (Value.int IntKind.i64 i))], [Row.flat [AV.lit (Value.bool false), AV.lit (Value.slice none 0 0)] true, Row.ints out true], []⟩), false = false, LoopOK Tryz.prog (lpOf Tryz.prog 104 1) (viaL Tryz.prog (lpOf Tryz.prog 104 1) [] [2, 3, 10, 58, 59, 60] [1] ⟨sp 92 [(2, AV.ref 0 0), (3, AV.own 1 0 n 1), (10, AV.lit (Value.int IntKind.i64 0)), (58, AV.own 1 0 n 1), (59, AV.lit (Value.int IntKind.i64 (↑n : Int))), (60, AV.lit (Value.int IntKind.i64 0))], [Row.flat [AV.lit (Value.bool false), AV.lit (Value.slice none 0 0)] true, Row.ints out true], [1]⟩ (Ex.exit 2, ⟨sp 92 [(2, AV.ref 0 0), (3, AV.own 1 0 n 1), (10, AV.lit (Value.int IntKind.i64 b)), (58, AV.own 1 0 n 1), (59, AV.lit (Value.int IntKind.i64 (↑n : Int))), (60, AV.lit (Value.int IntKind.i64 k))], [Row.flat [AV.lit (Value.bool false), AV.lit (Value.slice none 0 0)] true, Row.ints out2 true], [1]⟩)), (⟨sp 92 [(2, AV.ref 0 0), (3, AV.own 1 0 n 1), (10, AV.lit (Value.int IntKind.i64 0)), (58, AV.own 1 0 n 1), (59, AV.lit (Value.int IntKind.i64 (↑n : Int))), (60, AV.lit (Value.int IntKind.i64 0))], [Row.flat [AV.lit (Value.bool false), AV.lit (Value.slice none 0 0)] true, Row.ints out true], [1]⟩ : St) = ⟨sp 92 [(2, AV.ref 0 0), (3, AV.own 1 0 n 1), (10, AV.lit (Value.int IntKind.i64 0)), (58, AV.own 1 0 n 1), (59, AV.lit (Value.int IntKind.i64 (↑n : Int))), (60, AV.lit (Value.int IntKind.i64 0))], [Row.flat [AV.lit (Value.bool false), AV.lit (Value.slice none 0 0)] true, Row.ints out true], [1]⟩, Loops 2 Tryz.prog (lpOf Tryz.prog 104 1) ⟨sp 92 [(2, AV.ref 0 0), (3, AV.own 1 0 n 1), (10, AV.lit (Value.int IntKind.i64 0)), (58, AV.own 1 0 n 1), (59, AV.lit (Value.int IntKind.i64 (↑n : Int))), (60, AV.lit (Value.int IntKind.i64 0))], [Row.flat [AV.lit (Value.bool false), AV.lit (Value.slice none 0 0)] true, Row.ints out true], [1]⟩ (Ex.exit 2, ⟨sp 92 [(2, AV.ref 0 0), (3, AV.own 1 0 n 1), (10, AV.lit (Value.int IntKind.i64 b)), (58, AV.own 1 0 n 1), (59, AV.lit (Value.int IntKind.i64 (↑n : Int))), (60, AV.lit (Value.int IntKind.i64 k))], [Row.flat [AV.lit (Value.bool false), AV.lit (Value.slice none 0 0)] true, Row.ints out2 true], [1]⟩), (b == 0) = false, n ≤ List.length out2, short64 (List.take n out2)]) := by kernel_rfl
theorem getD_mid (pre : List Int) (s : Int) (suf : List Int) (d : Int) : (pre ++ s :: suf).getD pre.length d = s := by simp [List.getD]
theorem set_mid (pre : List Int) (s : Int) (suf : List Int) (v : Int) : (pre ++ s :: suf).set pre.length v = pre ++ v :: suf := by simp
theorem take_snoc (out : List Int) (d : Int) : List.take out.length out ++ List.take 1 [d] = out ++ [d] := by simp
theorem pow_nn (n : Nat) : (0 : Int) ≤ 100000000 ^ n := Int.le_of_lt (pow_pos n)

theorem alg1 (P d t : Int) : P * (d + 100000000 * t) = P * d + P * 100000000 * t := by rw [Int.mul_add, Int.mul_assoc]
theorem alg2 (v P d t : Int) : v + P * d - P * 100000000 * t = v - P * (-d + 100000000 * t) := by rw [alg1, Int.mul_neg]; omega
/-- One digit more. -/
theorem vl_step (out : List Int) (c xi d c' v : Int) (h : xi + c = d + 100000000 * c') :
    vl (out ++ [d]) + 100000000 ^ (out ++ [d]).length * (c' + v) = vl out + 100000000 ^ out.length * (c + (xi + 100000000 * v)) := by
  have e : c + (xi + 100000000 * v) = d + 100000000 * (c' + v) := by omega
  rw [e, vl_snoc, List.length_append, List.length_singleton, Int.pow_succ, alg1, Int.add_assoc]

theorem readA : ∀ (m : Nat) (x : List Int) (i c : Int) (out : List Int), c.natAbs ≤ m → (x.length : Int) ≤ i → i + m ≤ 8796093022208 → Digs out → -1000000000000 ≤ c → c ≤ 1000000000000 → out.length + m ≤ 8796093022208 →
    ∃ (i' c' : Int) (out' : List Int), (c' = 0 ∨ c' = -1) ∧ Digs out' ∧ vl out' + 100000000 ^ out'.length * c' = vl out + 100000000 ^ out.length * c ∧ out'.length ≤ out.length + m ∧
      Loops 1 Tryz.prog (lpOf Tryz.prog 104 0) (SR x i c out.length out) (.exit 0, SR x i' c' out'.length out') := by
  intro m
  induction m with
  | zero =>
    intro x i c out hc hi hi2 hd h1 h2 hl
    have : c = 0 := by omega
    subst this
    have h := LS.of ok1 (readX_5 x i 0 out.length out) (by (repeat' (first | exact AllC.nil | refine AllC.cons ?_ ?_)); all_goals (first | exact viaL_ok | ((with_reducible refine inR64.2 ?_); omega) | (with_reducible refine pFl ?_ ?_ <;> omega) | ((with_reducible refine decide_eq_true ?_); omega) | ((with_reducible refine decide_eq_false ?_); omega) | omega | (simp [hi] <;> omega) | assumption | rfl))
    exact ⟨i, 0, out, .inl rfl, hd, rfl, by omega, Loops.fin h (by simp [Ex.toExit])⟩
  | succ m ih =>
    intro x i c out hc hi hi2 hd h1 h2 hl
    by_cases h0 : c = 0
    · subst h0
      have h := LS.of ok1 (readX_5 x i 0 out.length out) (by (repeat' (first | exact AllC.nil | refine AllC.cons ?_ ?_)); all_goals (first | exact viaL_ok | ((with_reducible refine inR64.2 ?_); omega) | (with_reducible refine pFl ?_ ?_ <;> omega) | ((with_reducible refine decide_eq_true ?_); omega) | ((with_reducible refine decide_eq_false ?_); omega) | omega | (simp [hi] <;> omega) | assumption | rfl))
      exact ⟨i, 0, out, .inl rfl, hd, rfl, by omega, Loops.fin h (by simp [Ex.toExit])⟩
    by_cases h3 : c = -1
    · subst h3
      have h := LS.of ok1 (readX_4 x i (-1) out.length out) (by (repeat' (first | exact AllC.nil | refine AllC.cons ?_ ?_)); all_goals (first | exact viaL_ok | ((with_reducible refine inR64.2 ?_); omega) | (with_reducible refine pFl ?_ ?_ <;> omega) | ((with_reducible refine decide_eq_true ?_); omega) | ((with_reducible refine decide_eq_false ?_); omega) | omega | (simp [hi] <;> omega) | assumption | rfl))
      exact ⟨i, -1, out, .inr rfl, hd, rfl, by omega, Loops.fin h (by simp [Ex.toExit])⟩
    have h := LS.of ok1 (readS_3 x i c out.length out) (by (repeat' (first | exact AllC.nil | refine AllC.cons ?_ ?_)); all_goals (first | exact viaL_ok | ((with_reducible refine inR64.2 ?_); omega) | (with_reducible refine pFl ?_ ?_ <;> omega) | ((with_reducible refine decide_eq_true ?_); omega) | ((with_reducible refine decide_eq_false ?_); omega) | omega | (simp [hi, h0, h3, pFloored] <;> omega) | assumption | rfl))
    rw [take_snoc] at h
    have e : out.length + 1 = (out ++ [(0 + c) % 100000000]).length := by simp
    rw [e] at h
    have hd2 : Digs (out ++ [(0 + c) % 100000000]) := by
      intro d hd'
      rcases List.mem_append.1 hd' with h | h
      · exact hd d h
      · simp at h; subst h; omega
    obtain ⟨i', c', out', k1, k2, k3, k4, k5⟩ := ih x (i + 1) (0 + (0 + c) / 100000000) (out ++ [(0 + c) % 100000000]) (by omega) (by omega) (by omega) hd2 (by omega) (by omega) (by simp; omega)
    refine ⟨i', c', out', k1, k2, ?_, by simp at k4; omega, Loops.go h k5⟩
    have := vl_step out c 0 ((0 + c) % 100000000) (0 + (0 + c) / 100000000) 0 (by omega)
    simp only [Int.add_zero, Int.mul_zero] at this
    rw [k3, this]

def pRead (x : List Int) : Prop := (x.length : Int) ≤ 1099511627776 ∧ ∀ d ∈ x, pFloored d

theorem readB : ∀ (k : Nat) (x : List Int) (c : Int) (out : List Int), pRead x → x.length = out.length + k → Digs out → -1000000000000 ≤ c → c ≤ 1000000000000 →
    ∃ (i' c' : Int) (out' : List Int), (c' = 0 ∨ c' = -1) ∧ Digs out' ∧ vl out' + 100000000 ^ out'.length * c' = vl out + 100000000 ^ out.length * (c + vl (x.drop out.length)) ∧ out'.length ≤ 2199023255552 ∧
      Loops 1 Tryz.prog (lpOf Tryz.prog 104 0) (SR x (out.length : Int) c out.length out) (.exit 0, SR x i' c' out'.length out') := by
  intro k
  induction k with
  | zero =>
    intro x c out hx hk hd h1 h2
    have hx1 := hx.1
    obtain ⟨i', c', out', k1, k2, k3, k4, k5⟩ := readA c.natAbs x out.length c out (Nat.le_refl _) (by omega) (by omega) hd h1 h2 (by omega)
    refine ⟨i', c', out', k1, k2, ?_, by omega, k5⟩
    rw [List.drop_eq_nil_of_le (by omega), k3]; simp [vl]
  | succ k ih =>
    intro x c out hx hk hd h1 h2
    have hx1 := hx.1
    have hlt : out.length < x.length := by omega
    have hg : x.getD out.length 0 = x[out.length] := by simp [List.getD, hlt]
    have hnat : Int.toNat (out.length : Int) = out.length := by omega
    have hb := hx.2 (x[out.length]) (List.getElem_mem hlt)
    have hb' := hb
    unfold pFloored at hb'
    have h := LS.of ok1 (readS_0 x out.length c out.length out) (by
      rw [hnat, hg]
      exact (by (repeat' (first | exact AllC.nil | refine AllC.cons ?_ ?_)); all_goals (first | exact viaL_ok | ((with_reducible refine inR64.2 ?_); omega) | (with_reducible refine pFl ?_ ?_ <;> omega) | ((with_reducible refine decide_eq_true ?_); omega) | ((with_reducible refine decide_eq_false ?_); omega) | omega | (simp [hlt, pFloored] <;> omega) | assumption | rfl)))
    rw [hnat, hg, take_snoc] at h
    generalize hq : x[out.length] = xi at *
    have e : out.length + 1 = (out ++ [(xi % 100000000 + c) % 100000000]).length := by simp
    have e2 : (out.length : Int) + 1 = ((out ++ [(xi % 100000000 + c) % 100000000]).length : Nat) := by simp
    rw [e, e2] at h
    have hd2 : Digs (out ++ [(xi % 100000000 + c) % 100000000]) := by
      intro d hd'
      rcases List.mem_append.1 hd' with h | h
      · exact hd d h
      · simp at h; subst h; omega
    obtain ⟨i', c', out', k1, k2, k3, k4, k5⟩ := ih x (xi / 100000000 + (xi % 100000000 + c) / 100000000) (out ++ [(xi % 100000000 + c) % 100000000]) hx (by simp; omega) hd2 (by omega) (by omega)
    refine ⟨i', c', out', k1, k2, ?_, k4, Loops.go h k5⟩
    rw [k3]
    have hdrop : x.drop out.length = xi :: x.drop (out.length + 1) := by rw [List.drop_eq_getElem_cons hlt, hq]
    rw [hdrop]
    have := vl_step out c xi ((xi % 100000000 + c) % 100000000) (xi / 100000000 + (xi % 100000000 + c) / 100000000) (vl (x.drop (out.length + 1))) (by omega)
    simp only [List.length_append, List.length_singleton] at this ⊢
    simp only [vl]
    exact this

theorem readC : ∀ (suf pre : List Int) (b : Int) (n : Nat), (b = 0 ∨ b = 1) → Digs pre → Digs suf → n = pre.length + suf.length → n ≤ 4611686018427387 →
    ∃ (pre' : List Int) (b' : Int), Digs pre' ∧ pre'.length = n ∧ (b' = 0 ∨ b' = 1) ∧ vl pre' - 100000000 ^ n * b' = vl pre - 100000000 ^ pre.length * (b + vl suf) ∧
      Loops 2 Tryz.prog (lpOf Tryz.prog 104 1) (SC b pre.length n (pre ++ suf)) (.exit 2, SC b' n n pre')
  | [], pre, b, n, hb, hp, hs, hn, hl => by
    simp only [List.length_nil, Nat.add_zero] at hn
    subst hn
    refine ⟨pre, b, hp, rfl, hb, by simp [vl], ?_⟩
    rw [List.append_nil]
    exact Loops.fin (LS.of ok1 (readC_2 b pre.length pre.length pre) (by (repeat' (first | exact AllC.nil | refine AllC.cons ?_ ?_)); all_goals (first | exact viaL_ok | ((with_reducible refine inR64.2 ?_); omega) | (with_reducible refine pFl ?_ ?_ <;> omega) | ((with_reducible refine decide_eq_true ?_); omega) | ((with_reducible refine decide_eq_false ?_); omega) | omega | (simp [] <;> omega) | assumption | rfl))) (by simp [Ex.toExit])
  | s :: suf, pre, b, n, hb, hp, hs, hn, hl => by
    have hs0 := hs s (by simp)
    have hsf : Digs suf := fun d hd => hs d (by simp [hd])
    have hk : 0 + Int.toNat (pre.length : Int) * 1 = pre.length := by omega
    simp only [List.length_cons] at hn
    by_cases hneg : 0 - s - b < 0
    · have h := LS.of ok1 (readC_0 b pre.length n (pre ++ s :: suf)) (by
        simp only [hk, getD_mid, set_mid]
        exact (by (repeat' (first | exact AllC.nil | refine AllC.cons ?_ ?_)); all_goals (first | exact viaL_ok | ((with_reducible refine inR64.2 ?_); omega) | (with_reducible refine pFl ?_ ?_ <;> omega) | ((with_reducible refine decide_eq_true ?_); omega) | ((with_reducible refine decide_eq_false ?_); omega) | omega | (simp [hneg, hn] <;> omega) | assumption | rfl)))
      simp only [hk, getD_mid, set_mid] at h
      have e : pre ++ (0 - s - b + 100000000) :: suf = (pre ++ [0 - s - b + 100000000]) ++ suf := by simp
      have e2 : (pre.length : Int) + 1 = ((pre ++ [0 - s - b + 100000000]).length : Nat) := by simp
      rw [e, e2] at h
      obtain ⟨pre', b', k1, k2, k3, k4, k5⟩ := readC suf (pre ++ [0 - s - b + 100000000]) 1 n (.inr rfl) (by
        intro d hd
        rcases List.mem_append.1 hd with h | h
        · exact hp d h
        · simp at h; subst h; omega) hsf (by simp; omega) hl
      refine ⟨pre', b', k1, k2, k3, ?_, Loops.go h k5⟩
      rw [k4, vl_snoc, List.length_append, List.length_singleton, Int.pow_succ]
      simp only [vl]
      have e3 : (b + (s + 100000000 * vl suf)) = -(0 - s - b + 100000000) + 100000000 * (1 + vl suf) := by omega
      rw [e3]
      exact alg2 _ _ _ _
    · have hz : 0 - s - b = 0 := by omega
      have h := LS.of ok1 (readC_1 b pre.length n (pre ++ s :: suf)) (by
        simp only [hk, getD_mid, set_mid]
        exact (by (repeat' (first | exact AllC.nil | refine AllC.cons ?_ ?_)); all_goals (first | exact viaL_ok | ((with_reducible refine inR64.2 ?_); omega) | (with_reducible refine pFl ?_ ?_ <;> omega) | ((with_reducible refine decide_eq_true ?_); omega) | ((with_reducible refine decide_eq_false ?_); omega) | omega | (simp [hneg, hn] <;> omega) | assumption | rfl)))
      simp only [hk, getD_mid, set_mid] at h
      have e : pre ++ (0 - s - b) :: suf = (pre ++ [0 - s - b]) ++ suf := by simp
      have e2 : (pre.length : Int) + 1 = ((pre ++ [0 - s - b]).length : Nat) := by simp
      rw [e, e2] at h
      obtain ⟨pre', b', k1, k2, k3, k4, k5⟩ := readC suf (pre ++ [0 - s - b]) 0 n (.inl rfl) (by
        intro d hd
        rcases List.mem_append.1 hd with h | h
        · exact hp d h
        · simp at h; subst h; omega) hsf (by simp; omega) hl
      refine ⟨pre', b', k1, k2, k3, ?_, Loops.go h k5⟩
      rw [k4, vl_snoc, List.length_append, List.length_singleton, Int.pow_succ]
      simp only [vl]
      have e3 : (b + (s + 100000000 * vl suf)) = -(0 - s - b) + 100000000 * (0 + vl suf) := by omega
      rw [e3]
      exact alg2 _ _ _ _

theorem take_all (l : List Int) : l.take l.length = l := List.take_length

instance decRead {x : List Int} : Decidable (pRead x) := inferInstanceAs (Decidable (_ ∧ _))
theorem read_fc (x : List Int) (h : pRead x) : FC Tryz.prog 104 [.sq x] (W (vl x)) := by
  have hx1 := h.1
  -- the first loop
  have main : (∃ (i : Int) (out : List Int), Digs out ∧ vl out = vl x ∧ out.length ≤ 2199023255552 ∧ Loops 1 Tryz.prog (lpOf Tryz.prog 104 0) (SN x) (.exit 0, SR x i 0 out.length out)) ∨
      (∃ (i : Int) (out : List Int), Digs out ∧ vl out - 100000000 ^ out.length = vl x ∧ out.length ≤ 2199023255552 ∧ Loops 1 Tryz.prog (lpOf Tryz.prog 104 0) (SN x) (.exit 0, SR x i (-1) out.length out)) ∨
      (x = [] ∧ Loops 1 Tryz.prog (lpOf Tryz.prog 104 0) (SN x) (.exit 0, SN x)) := by
    cases x with
    | nil =>
      refine .inr (.inr ⟨rfl, Loops.fin (LS.of ok1 (readE_2 []) (by (repeat' (first | exact AllC.nil | refine AllC.cons ?_ ?_)); all_goals (first | exact viaL_ok | ((with_reducible refine inR64.2 ?_); omega) | (with_reducible refine pFl ?_ ?_ <;> omega) | ((with_reducible refine decide_eq_true ?_); omega) | ((with_reducible refine decide_eq_false ?_); omega) | omega | (simp [] <;> omega) | assumption | rfl))) (by simp [Ex.toExit])⟩)
    | cons d x =>
      have hb := h.2 d (by simp)
      have hb' := hb
      unfold pFloored at hb'
      have hlt : 0 < (d :: x).length := by simp
      have hg : (d :: x).getD 0 0 = d := rfl
      have hg2 : (d :: x).getD (Int.toNat 0) 0 = d := rfl
      have hstep := LS.of ok1 (readN_0 (d :: x)) (by
        rw [hg]
        exact (by (repeat' (first | exact AllC.nil | refine AllC.cons ?_ ?_)); all_goals (first | exact viaL_ok | ((with_reducible refine inR64.2 ?_); omega) | (with_reducible refine pFl ?_ ?_ <;> omega) | ((with_reducible refine decide_eq_true ?_); omega) | ((with_reducible refine decide_eq_false ?_); omega) | omega | (simp [pFloored] <;> omega) | assumption | rfl)))
      rw [hg] at hstep
      have hd2 : Digs [(d % 100000000 + 0) % 100000000] := by
        intro y hy
        simp at hy; subst hy; omega
      obtain ⟨i', c', out', k1, k2, k3, k4, k5⟩ := readB x.length (d :: x) (d / 100000000 + (d % 100000000 + 0) / 100000000) [(d % 100000000 + 0) % 100000000] h (by simp; omega) hd2 (by omega) (by omega)
      have hv : vl out' + 100000000 ^ out'.length * c' = vl (d :: x) := by
        rw [k3]
        simp only [vl, List.length_singleton, List.drop_succ_cons, List.drop_zero, Int.pow_succ, Int.pow_zero]
        omega
      rcases k1 with rfl | rfl
      · exact .inl ⟨i', out', k2, by omega, k4, Loops.go hstep k5⟩
      · refine .inr (.inl ⟨i', out', k2, ?_, k4, Loops.go hstep k5⟩)
        rw [← hv, Int.mul_neg, Int.mul_one]; omega
  rcases main with ⟨i, out, hd, hv, hl, hL⟩ | ⟨i, out, hd, hv, hl, hL⟩ | ⟨rfl, hL⟩
  · have := fc_fun ok1 (readF_0 x i out out.length) (.cons viaL_ok (.cons rfl (.cons hL (.cons rfl (.cons (Nat.le_refl _) (.cons (by rw [take_all]; unfold short64; omega) .nil))))))
    rw [take_all] at this
    have h0 : 0 ≤ vl x := by rw [← hv]; exact vl_nonneg hd
    refine this.res fun E v hr => hr.toW (b := false) rfl rfl (by simp; omega) ?_
    rw [trm_digs hd, hv]
    congr 1
    omega
  · obtain ⟨out2, b', k1, k2, k3, k4, k5⟩ := readC out [] 0 out.length (.inl rfl) (fun d hd => by cases hd) hd (by simp) (by omega)
    simp only [vl, List.length_nil, Int.pow_zero, Int.zero_add, Int.one_mul, List.nil_append] at k4 k5
    have hlt := vl_lt hd
    have hneg : vl x < 0 := by omega
    have hL2 : Loops 2 Tryz.prog (lpOf Tryz.prog 104 1) (SC 0 0 out.length out) (.exit 2, SC b' (out.length : Int) out.length out2) := k5
    have ht : List.take out.length out2 = out2 := by rw [← k2, take_all]
    rcases k3 with rfl | rfl
    · -- all of them are 0
      have := fc_fun ok1 (readH_0 x i out out2 out.length 0 (out.length : Int)) (by
        have e : List.take (out.length + 1) (List.take out.length out2 ++ List.take 1 [1]) = out2 ++ [1] := by
          rw [ht, ← k2]; exact List.take_of_length_le (l := out2 ++ [1]) (by simp)
        refine .cons viaL_ok (.cons rfl (.cons hL (.cons rfl (.cons viaL_ok (.cons rfl (.cons hL2 ?_))))))
        rw [e, ht]
        exact (by (repeat' (first | exact AllC.nil | refine AllC.cons ?_ ?_)); all_goals (first | exact viaL_ok | ((with_reducible refine inR64.2 ?_); omega) | (with_reducible refine pFl ?_ ?_ <;> omega) | ((with_reducible refine decide_eq_true ?_); omega) | ((with_reducible refine decide_eq_false ?_); omega) | omega | (simp [k2, short64] <;> omega) | assumption | rfl)))
      have e : List.take (out.length + 1) (List.take out.length out2 ++ List.take 1 [1]) = out2 ++ [1] := by
        rw [ht, ← k2]; exact List.take_of_length_le (l := out2 ++ [1]) (by simp)
      rw [e, trm_last out2 1 (by decide)] at this
      refine this.res fun E v hr => hr.toW (b := true) rfl rfl (by simp; omega) ?_
      have hdd : Digs (out2 ++ [1]) := by
        intro d hd'
        rcases List.mem_append.1 hd' with h | h
        · exact k1 d h
        · simp at h; subst h; omega
      have hval : vl (out2 ++ [1]) = - vl x := by rw [vl_snoc, k2]; omega
      rw [← digs_vl hdd (trm_last out2 1 (by decide)), hval]
      congr 1
      omega
    · have := fc_fun ok1 (readH_1 x i out out2 out.length 1 (out.length : Int)) (by
        refine .cons viaL_ok (.cons rfl (.cons hL (.cons rfl (.cons viaL_ok (.cons rfl (.cons hL2 ?_))))))
        rw [ht]
        exact (by (repeat' (first | exact AllC.nil | refine AllC.cons ?_ ?_)); all_goals (first | exact viaL_ok | ((with_reducible refine inR64.2 ?_); omega) | (with_reducible refine pFl ?_ ?_ <;> omega) | ((with_reducible refine decide_eq_true ?_); omega) | ((with_reducible refine decide_eq_false ?_); omega) | omega | (simp [k2, short64] <;> omega) | assumption | rfl)))
      rw [ht] at this
      refine this.res fun E v hr => hr.toW (b := true) rfl rfl (by simp; omega) ?_
      rw [trm_digs k1]
      have hval : vl out2 = - vl x := by omega
      rw [hval]
      congr 1
      omega
  · have := fc_fun ok1 (readG_0 []) (.cons viaL_ok (.cons rfl (.cons hL (.cons rfl (.cons (by unfold short64; decide) .nil)))))
    exact this.res fun E v hr => hr.toW (b := false) rfl rfl (by simp [vl]) (by simp [vl, digs_zero])

def ctr2 : Ctr := (104, cL pRead (fun x => W (vl x))) :: ctr1
theorem ctr2_all : ∀ p ∈ ctr2, CtrOK Tryz.prog p.1 p.2 := CAll.cons (cL_ok read_fc) ctr1_all
theorem ok2 : (mkCfg Tryz.prog ctr2 bw).OK := cfg_ok ctr2_all

end Go.Proofs.YtcpgkgldibobeaaGreatDoor
end

section
open Go Go.Ev
namespace Go.Proofs.YtcpgkgldibobeaaGreatDoor
open Go.Proofs
abbrev SLs (nb : Bool) (z : Int) (n : Nat) (k : Int) (l : List Int) : St := ⟨sp 28 [(3, .own 2 0 n 1), (10, .own 2 0 n 1), (11, .lit (.int .i64 (n : Int))), (12, .lit (.int .i64 k))], [.flat [.lit (.bool nb), .wd z] true, .dead, .ints l true], [0, 1, 2]⟩
end Go.Proofs.YtcpgkgldibobeaaGreatDoor
end

section
open Go Go.Ev Go.RowKit
namespace Go.Proofs.YtcpgkgldibobeaaGreatDoor
open Go.Proofs
set_option maxRecDepth 100000
set_option maxHeartbeats 1000000
set_option linter.unusedVariables false
set_option linter.unusedSimpArgs false

theorem listL_0 (nb : Bool) (z : Int) (n : Nat) (k : Int) (l : List Int) : rndA (mkCfg Tryz.prog ctr2 bw) 60 (lpOf Tryz.prog 106 0) 3 [] [3, 10, 11, 12] [0, 1, 2] (SLs nb z n k l) [true] [] = some (Ex.normal, ⟨sp 28 [(3, AV.own 2 0 n 1), (10, AV.own 2 0 n 1), (11, AV.lit (Value.int IntKind.i64 (↑n : Int))), (12, AV.lit (Value.int IntKind.i64 (k + 1)))], [Row.flat [AV.lit (Value.bool nb), AV.wd z] true, Row.dead, Row.ints (List.set l (0 + Int.toNat k * 1) (0 - List.getD l (0 + Int.toNat k * 1) 0)) true], [0, 1, 2]⟩, [decide (k < (↑n : Int)) = true, decide (0 ≤ k) = true, decide (k < (↑n : Int)) = true, decide (0 + Int.toNat k * 1 < List.length l) = true, inR IntKind.i64 (0 - List.getD l (0 + Int.toNat k * 1) 0) = true, decide (0 ≤ k) = true, decide (k < (↑n : Int)) = true, decide (0 + Int.toNat k * 1 < List.length l) = true, inR IntKind.i64 (k + 1) = true]) := by kernel_rfl
theorem listL_1 (nb : Bool) (z : Int) (n : Nat) (k : Int) (l : List Int) : rndA (mkCfg Tryz.prog ctr2 bw) 60 (lpOf Tryz.prog 106 0) 3 [] [3, 10, 11, 12] [0, 1, 2] (SLs nb z n k l) [false] [] = some (Ex.exit 0, ⟨sp 28 [(3, AV.own 2 0 n 1), (10, AV.own 2 0 n 1), (11, AV.lit (Value.int IntKind.i64 (↑n : Int))), (12, AV.lit (Value.int IntKind.i64 k))], [Row.flat [AV.lit (Value.bool nb), AV.wd z] true, Row.dead, Row.ints l true], [0, 1, 2]⟩, [decide (k < (↑n : Int)) = false]) := by kernel_rfl
theorem list_1 (nb : Bool) (z : Int) (l2 : List Int) (k : Int) : funA (mkCfg Tryz.prog ctr2 bw) 60 106 [.agg [.lit (.bool nb), .wd z]] [true, false] [some (viaL Tryz.prog (lpOf Tryz.prog 106 0) [] [3,10,11,12] [0,1,2] (SLs nb z (digs z.natAbs).length 0 (digs z.natAbs)) (.exit 0, SLs nb z (digs z.natAbs).length k l2))] = some (AV.sq (List.take (List.length (digs (Int.natAbs z))) l2), [(!List.isEmpty (digs (Int.natAbs z))) = true, decide ((0 + List.length (digs (Int.natAbs z))) * 8 ≤ 140737488355328) = true, decide (0 + List.length (digs (Int.natAbs z)) ≤ 4611686018427387904) = true, true = true, decide (List.length (digs (Int.natAbs z)) = List.length (digs (Int.natAbs z))) = true, nb = true, LoopOK Tryz.prog (lpOf Tryz.prog 106 0) (viaL Tryz.prog (lpOf Tryz.prog 106 0) [] [3, 10, 11, 12] [0, 1, 2] ⟨sp 28 [(3, AV.own 2 0 (List.length (digs (Int.natAbs z))) 1), (10, AV.own 2 0 (List.length (digs (Int.natAbs z))) 1), (11, AV.lit (Value.int IntKind.i64 (↑(List.length (digs (Int.natAbs z))) : Int))), (12, AV.lit (Value.int IntKind.i64 0))], [Row.flat [AV.lit (Value.bool nb), AV.wd z] true, Row.dead, Row.ints (digs (Int.natAbs z)) true], [0, 1, 2]⟩ (Ex.exit 0, ⟨sp 28 [(3, AV.own 2 0 (List.length (digs (Int.natAbs z))) 1), (10, AV.own 2 0 (List.length (digs (Int.natAbs z))) 1), (11, AV.lit (Value.int IntKind.i64 (↑(List.length (digs (Int.natAbs z))) : Int))), (12, AV.lit (Value.int IntKind.i64 k))], [Row.flat [AV.lit (Value.bool nb), AV.wd z] true, Row.dead, Row.ints l2 true], [0, 1, 2]⟩)), (⟨sp 28 [(3, AV.own 2 0 (0 + List.length (digs (Int.natAbs z))) 1), (10, AV.own 2 0 (0 + List.length (digs (Int.natAbs z))) 1), (11, AV.lit (Value.int IntKind.i64 (↑(0 + List.length (digs (Int.natAbs z))) : Int))), (12, AV.lit (Value.int IntKind.i64 0))], [Row.flat [AV.lit (Value.bool nb), AV.wd z] true, Row.dead, Row.ints (List.take 0 [] ++ digs (Int.natAbs z)) true], [0, 1, 2]⟩ : St) = ⟨sp 28 [(3, AV.own 2 0 (List.length (digs (Int.natAbs z))) 1), (10, AV.own 2 0 (List.length (digs (Int.natAbs z))) 1), (11, AV.lit (Value.int IntKind.i64 (↑(List.length (digs (Int.natAbs z))) : Int))), (12, AV.lit (Value.int IntKind.i64 0))], [Row.flat [AV.lit (Value.bool nb), AV.wd z] true, Row.dead, Row.ints (digs (Int.natAbs z)) true], [0, 1, 2]⟩, Loops 3 Tryz.prog (lpOf Tryz.prog 106 0) ⟨sp 28 [(3, AV.own 2 0 (List.length (digs (Int.natAbs z))) 1), (10, AV.own 2 0 (List.length (digs (Int.natAbs z))) 1), (11, AV.lit (Value.int IntKind.i64 (↑(List.length (digs (Int.natAbs z))) : Int))), (12, AV.lit (Value.int IntKind.i64 0))], [Row.flat [AV.lit (Value.bool nb), AV.wd z] true, Row.dead, Row.ints (digs (Int.natAbs z)) true], [0, 1, 2]⟩ (Ex.exit 0, ⟨sp 28 [(3, AV.own 2 0 (List.length (digs (Int.natAbs z))) 1), (10, AV.own 2 0 (List.length (digs (Int.natAbs z))) 1), (11, AV.lit (Value.int IntKind.i64 (↑(List.length (digs (Int.natAbs z))) : Int))), (12, AV.lit (Value.int IntKind.i64 k))], [Row.flat [AV.lit (Value.bool nb), AV.wd z] true, Row.dead, Row.ints l2 true], [0, 1, 2]⟩), ((↑(List.length (digs (Int.natAbs z))) : Int) == 0) = false, List.length (digs (Int.natAbs z)) ≤ List.length l2]) := by kernel_rfl
theorem listF_1 (z : Int) : funA (mkCfg Tryz.prog ctr2 bw) 60 106 [.agg [.lit (.bool false), .wd z]] [false, false] [] = some (AV.sq (List.take (0 + List.length (digs (Int.natAbs z))) (List.take 0 [] ++ digs (Int.natAbs z))), [(!List.isEmpty (digs (Int.natAbs z))) = true, decide ((0 + List.length (digs (Int.natAbs z))) * 8 ≤ 140737488355328) = true, decide (0 + List.length (digs (Int.natAbs z)) ≤ 4611686018427387904) = true, true = true, decide (List.length (digs (Int.natAbs z)) = List.length (digs (Int.natAbs z))) = true, false = false, ((↑(0 + List.length (digs (Int.natAbs z))) : Int) == 0) = false, 0 + List.length (digs (Int.natAbs z)) ≤ List.length (List.take 0 [] ++ digs (Int.natAbs z))]) := by kernel_rfl
theorem listZ_0 (a : Addr) (c : Nat) : funA (mkCfg Tryz.prog ctr2 bw) 60 106 [.lit (.agg #[.bool false, .slice (some a) 0 c])] [false, true] [] = some (AV.lit (Value.slice none 0 0), [true = true, true = true, true = true, true = true, false = false, true = true]) := by kernel_rfl
theorem listY_0 (c : Nat) : funA (mkCfg Tryz.prog ctr2 bw) 60 106 [.lit (.agg #[.bool false, .slice none 0 c])] [false, true] [] = some (AV.lit (Value.slice none 0 0), [false = false, true = true]) := by kernel_rfl
theorem small_0 (n : Int) : funA (mkCfg Tryz.prog ctr2 bw) 60 103 [.lit (.int .i64 n)] [] [] = some (AV.agg [AV.lit (Value.bool (decide (n + 0 < 0))), AV.wd (n + 0)], [1 ≤ List.length [n], pRead (List.take 1 [n])]) := by kernel_rfl
theorem sign_0 (nb : Bool) (z : Int) : funA (mkCfg Tryz.prog ctr2 bw) 60 110 [.agg [.lit (.bool nb), .wd z]] [true] [] = some (AV.lit (Value.int IntKind.i64 0), [((↑(List.length (digs (Int.natAbs z))) : Int) == 0) = true]) := by kernel_rfl
theorem sign_1 (nb : Bool) (z : Int) : funA (mkCfg Tryz.prog ctr2 bw) 60 110 [.agg [.lit (.bool nb), .wd z]] [false, true] [] = some (AV.lit (Value.int IntKind.i64 (-1)), [((↑(List.length (digs (Int.natAbs z))) : Int) == 0) = false, nb = true]) := by kernel_rfl
theorem sign_2 (nb : Bool) (z : Int) : funA (mkCfg Tryz.prog ctr2 bw) 60 110 [.agg [.lit (.bool nb), .wd z]] [false, false] [] = some (AV.lit (Value.int IntKind.i64 1), [((↑(List.length (digs (Int.natAbs z))) : Int) == 0) = false, nb = false]) := by kernel_rfl
theorem minus_0 (nb : Bool) (z : Int) : funA (mkCfg Tryz.prog ctr2 bw) 60 108 [.agg [.lit (.bool nb), .wd z]] [true] [] = some (AV.agg [AV.lit (Value.bool (decide ((↑(List.length (digs (Int.natAbs z))) : Int) > 0))), AV.wd z], [(!nb) = true]) := by kernel_rfl
theorem minus_1 (nb : Bool) (z : Int) : funA (mkCfg Tryz.prog ctr2 bw) 60 108 [.agg [.lit (.bool nb), .wd z]] [false] [] = some (AV.agg [AV.ff, AV.wd z], [(!nb) = false]) := by kernel_rfl
theorem cmpi_3 (a b : Int) : funA (mkCfg Tryz.prog ctr2 bw) 60 183 [.lit (.int .i64 a), .lit (.int .i64 b)] [false, false, true] [] = some (AV.lit (Value.int IntKind.i64 (-1)), [(a != a) = false, (b != b) = false, decide (a < b) = true]) := by kernel_rfl
theorem cmpi_4 (a b : Int) : funA (mkCfg Tryz.prog ctr2 bw) 60 183 [.lit (.int .i64 a), .lit (.int .i64 b)] [false, false, false, true] [] = some (AV.lit (Value.int IntKind.i64 1), [(a != a) = false, (b != b) = false, decide (a < b) = false, decide (a > b) = true]) := by kernel_rfl
theorem cmpi_5 (a b : Int) : funA (mkCfg Tryz.prog ctr2 bw) 60 183 [.lit (.int .i64 a), .lit (.int .i64 b)] [false, false, false, false] [] = some (AV.lit (Value.int IntKind.i64 0), [(a != a) = false, (b != b) = false, decide (a < b) = false, decide (a > b) = false]) := by kernel_rfl
theorem negL : ∀ (suf pre : List Int) (n : Nat) (nb : Bool) (z : Int), n = pre.length + suf.length → n ≤ 4611686018427387904 → (∀ d ∈ suf, 0 ≤ d ∧ d < 100000000) →
    Loops 3 Tryz.prog (lpOf Tryz.prog 106 0) (SLs nb z n pre.length (pre ++ suf)) (.exit 0, SLs nb z n n (pre ++ suf.map fun d => -d))
  | [], pre, n, nb, z, hn, hl, hs => by
    simp only [List.length_nil, Nat.add_zero] at hn
    subst hn
    rw [List.append_nil, List.map_nil, List.append_nil]
    exact Loops.fin (LS.of ok2 (listL_1 nb z pre.length pre.length pre) (by (repeat' (first | exact AllC.nil | refine AllC.cons ?_ ?_)); all_goals (first | exact viaL_ok | ((with_reducible refine inR64.2 ?_); omega) | (with_reducible refine pFl ?_ ?_ <;> omega) | ((with_reducible refine decide_eq_true ?_); omega) | ((with_reducible refine decide_eq_false ?_); omega) | omega | (simp [] <;> omega) | assumption | rfl))) (by simp [Ex.toExit])
  | s :: suf, pre, n, nb, z, hn, hl, hs => by
    have hs0 := hs s (by simp)
    have hk : 0 + Int.toNat (pre.length : Int) * 1 = pre.length := by omega
    simp only [List.length_cons] at hn
    have h := LS.of ok2 (listL_0 nb z n pre.length (pre ++ s :: suf)) (by
      simp only [hk, getD_mid, set_mid]
      exact (by (repeat' (first | exact AllC.nil | refine AllC.cons ?_ ?_)); all_goals (first | exact viaL_ok | ((with_reducible refine inR64.2 ?_); omega) | (with_reducible refine pFl ?_ ?_ <;> omega) | ((with_reducible refine decide_eq_true ?_); omega) | ((with_reducible refine decide_eq_false ?_); omega) | omega | (simp [hn] <;> omega) | assumption | rfl)))
    simp only [hk, getD_mid, set_mid] at h
    have e : pre ++ (0 - s) :: suf = (pre ++ [-s]) ++ suf := by simp
    have e2 : (pre.length : Int) + 1 = ((pre ++ [-s]).length : Nat) := by simp
    rw [e, e2] at h
    have := negL suf (pre ++ [-s]) n nb z (by simp; omega) hl (fun d hd => hs d (by simp [hd]))
    have e3 : pre ++ (s :: suf).map (fun d => -d) = (pre ++ [-s]) ++ suf.map (fun d => -d) := by simp
    rw [e3]
    exact Loops.go h this

theorem dl_pos {z : Int} (h : z ≠ 0) : 0 < (digs z.natAbs).length := by
  rcases Nat.eq_zero_or_pos (digs z.natAbs).length with h0 | h0
  · have := (digs_nil z.natAbs).1 (List.eq_nil_of_length_eq_zero h0)
    omega
  · exact h0

theorem digs_ne {z : Int} (hz : z ≠ 0) : digs z.natAbs ≠ [] := by
  have hp := dl_pos hz
  intro h; rw [h] at hp; simp at hp

theorem list_fc (z : Int) (h : fits z) : FC Tryz.prog 106 [W z] (.ni z) := by
  unfold fits dl at h
  by_cases hz : z = 0
  · subst hz
    refine FC.cases1 fun E v hv => ?_
    cases hv with
    | @agg _ vs hl hr =>
      obtain ⟨v0, v1, rfl⟩ : ∃ v0 v1, vs = #[v0, v1] := by
        obtain ⟨l⟩ := vs
        match l, hl with
        | [a, b], _ => exact ⟨a, b, rfl⟩
      have h0 : v0 = .bool false := (hr 0 (by simp)).lit_inv
      have h1 : Rd E (.wd 0) v1 := hr 1 (by simp)
      obtain ⟨a, cap, h2, _, _⟩ := ints_inv (l := []) rfl h1
      subst h0; subst h2
      refine ⟨.lit (.agg #[.bool false, .slice a 0 cap]), .lit _, fun _ => .lit _, ?_⟩
      have toni : ∀ (E : Env) (v : Value), Rd E (.lit (.slice none 0 0)) v → Rd E (.ni 0) v := fun E v h => h.toNi (l := []) rfl rfl
      cases a with
      | none => exact (fc_fun ok2 (listY_0 cap) (by (repeat' (first | exact AllC.nil | refine AllC.cons ?_ ?_)); all_goals (first | exact viaL_ok | ((with_reducible refine inR64.2 ?_); omega) | (with_reducible refine pFl ?_ ?_ <;> omega) | ((with_reducible refine decide_eq_true ?_); omega) | ((with_reducible refine decide_eq_false ?_); omega) | omega | (simp [] <;> omega) | assumption | rfl))).res toni
      | some a => exact (fc_fun ok2 (listZ_0 a cap) (by (repeat' (first | exact AllC.nil | refine AllC.cons ?_ ?_)); all_goals (first | exact viaL_ok | ((with_reducible refine inR64.2 ?_); omega) | (with_reducible refine pFl ?_ ?_ <;> omega) | ((with_reducible refine decide_eq_true ?_); omega) | ((with_reducible refine decide_eq_false ?_); omega) | omega | (simp [] <;> omega) | assumption | rfl))).res toni
  · have hp := dl_pos hz
    have hne : digs z.natAbs ≠ [] := by intro h; rw [h] at hp; simp at hp
    have hsq : ∀ {l : List Int}, l = nform z → ∀ (E : Env) (v : Value), Rd E (.sq l) v → Rd E (.ni z) v := fun hl E v h => h.toNi rfl hl
    by_cases hneg : z < 0
    · have hL := negL (digs z.natAbs) [] (digs z.natAbs).length true z (by simp) (by omega) (Digs_digs _)
      rw [List.nil_append, List.nil_append] at hL
      have hL2 : Loops 3 Tryz.prog (lpOf Tryz.prog 106 0) (SLs true z (digs z.natAbs).length 0 (digs z.natAbs)) (.exit 0, SLs true z (digs z.natAbs).length ((digs z.natAbs).length : Int) ((digs z.natAbs).map fun d => -d)) := hL
      have := fc_fun ok2 (list_1 true z ((digs z.natAbs).map fun d => -d) ((digs z.natAbs).length : Int)) (by
        simp only [Nat.zero_add]
        exact (by (repeat' (first | exact AllC.nil | refine AllC.cons ?_ ?_)); all_goals (first | exact viaL_ok | ((with_reducible refine inR64.2 ?_); omega) | (with_reducible refine pFl ?_ ?_ <;> omega) | ((with_reducible refine decide_eq_true ?_); omega) | ((with_reducible refine decide_eq_false ?_); omega) | omega | (simp [hne] <;> omega) | assumption | rfl)))
      have e : W z = .agg [.lit (.bool true), .wd z] := by unfold W; simp [hneg]
      rw [e]
      refine this.res (hsq ?_)
      rw [show List.take (digs z.natAbs).length ((digs z.natAbs).map fun d => -d) = (digs z.natAbs).map fun d => -d from by rw [← List.length_map (f := fun d : Int => -d)]; exact List.take_length]
      unfold nform
      rw [if_pos hneg]
    · have := fc_fun ok2 (listF_1 z) (by (repeat' (first | exact AllC.nil | refine AllC.cons ?_ ?_)); all_goals (first | exact viaL_ok | ((with_reducible refine inR64.2 ?_); omega) | (with_reducible refine pFl ?_ ?_ <;> omega) | ((with_reducible refine decide_eq_true ?_); omega) | ((with_reducible refine decide_eq_false ?_); omega) | omega | (simp [hne] <;> omega) | assumption | rfl))
      have e : W z = .agg [.lit (.bool false), .wd z] := by unfold W; simp [hneg]
      rw [e]
      refine this.res (hsq ?_)
      unfold nform
      rw [if_neg hneg]
      simp

theorem small_fc (n : Int) (h : pFloored n) : FC Tryz.prog 103 [.lit (.int .i64 n)] (W n) := by
  have := fc_fun ok2 (small_0 n) (.cons (by simp) (.cons ⟨by simp, fun d hd => by simp at hd; subst hd; exact h⟩ .nil))
  rw [Int.add_zero] at this
  exact this
theorem sign_fc (z : Int) : FC Tryz.prog 110 [W z] (.lit (.int .i64 z.sign)) := by
  by_cases hz : z = 0
  · subst hz
    exact fc_fun ok2 (sign_0 _ 0) (.cons (by simp [digs_zero]) .nil)
  · have hne := digs_ne hz
    by_cases hneg : z < 0
    · have := fc_fun ok2 (sign_1 (decide (z < 0)) z) (.cons (by simp [hne]) (.cons (by simpa using hneg) .nil))
      rw [Int.sign_eq_neg_one_of_neg hneg]; exact this
    · have := fc_fun ok2 (sign_2 (decide (z < 0)) z) (.cons (by simp [hne]) (.cons (by simpa using hneg) .nil))
      rw [Int.sign_eq_one_of_pos (by omega)]; exact this
theorem minus_fc (z : Int) : FC Tryz.prog 108 [W z] (W (-z)) := by
  by_cases hneg : z < 0
  · have := fc_fun ok2 (minus_1 (decide (z < 0)) z) (.cons (by simpa using hneg) .nil)
    exact this.res fun E v h => h.toW (l := digs z.natAbs) rfl rfl (by simp; omega) (by rw [Int.natAbs_neg])
  · have := fc_fun ok2 (minus_0 (decide (z < 0)) z) (.cons (by simpa using hneg) .nil)
    refine this.res fun E v h => h.toW (l := digs z.natAbs) rfl rfl ?_ (by rw [Int.natAbs_neg])
    by_cases hz : z = 0
    · subst hz; simp [digs_zero]
    · have hp := dl_pos hz
      rw [decide_eq_decide]
      omega
def cmpI (a b : Int) : Int := if a < b then -1 else if b < a then 1 else 0
theorem cmpi_fc (a b : Int) : FC Tryz.prog 183 [.lit (.int .i64 a), .lit (.int .i64 b)] (.lit (.int .i64 (cmpI a b))) := by
  unfold cmpI
  by_cases h1 : a < b
  · rw [if_pos h1]
    exact fc_fun ok2 (cmpi_3 a b) (.cons (by simp) (.cons (by simp) (.cons (by simpa using h1) .nil)))
  · by_cases h2 : b < a
    · rw [if_neg h1, if_pos h2]
      exact fc_fun ok2 (cmpi_4 a b) (.cons (by simp) (.cons (by simp) (.cons (by simpa using h1) (.cons (by simpa using h2) .nil))))
    · rw [if_neg h1, if_neg h2]
      exact fc_fun ok2 (cmpi_5 a b) (.cons (by simp) (.cons (by simp) (.cons (by simpa using h1) (.cons (by simpa using h2) .nil))))

def ctr3 : Ctr := (106, c1 fits .ni) :: (103, cI pFloored W) :: (110, c1 (fun _ => True) (fun z => .lit (.int .i64 z.sign))) :: (108, c1 (fun _ => True) (fun z => W (-z))) ::
  (183, cII (fun _ _ => True) (fun a b => .lit (.int .i64 (cmpI a b)))) :: ctr2
theorem ctr3_all : ∀ p ∈ ctr3, CtrOK Tryz.prog p.1 p.2 := CAll.cons (c1_ok list_fc) <| CAll.cons (cI_ok small_fc) <| CAll.cons (c1_ok fun z _ => sign_fc z) <| CAll.cons (c1_ok fun z _ => minus_fc z) <|
  CAll.cons (cII_ok fun a b _ => cmpi_fc a b) ctr2_all
theorem ok3 : (mkCfg Tryz.prog ctr3 bw).OK := cfg_ok ctr3_all

end Go.Proofs.YtcpgkgldibobeaaGreatDoor
end

section
open Go Go.Ev Go.RowKit
namespace Go.Proofs.YtcpgkgldibobeaaGreatDoor
open Go.Proofs
set_option maxRecDepth 100000
set_option maxHeartbeats 1000000
set_option linter.unusedVariables false
set_option linter.unusedSimpArgs false

theorem sizesL_0 (a b i : Int) : rndA (mkCfg Tryz.prog ctr3 bw) 60 (lpOf Tryz.prog 154 0) 0 [] [0, 1, 4, 5] [] ⟨sp 41 [(0, .wd a), (1, .wd b), (4, .lit (.int .i64 0)), (5, .lit (.int .i64 i))], [], []⟩ [true, true] [] = some (Ex.ret, ⟨sp 41 [(0, AV.wd a), (1, AV.wd b), (4, AV.lit (Value.int IntKind.i64 (cmpI (List.getD (digs (Int.natAbs a)) (Int.toNat i) 0) (List.getD (digs (Int.natAbs b)) (Int.toNat i) 0)))), (5, AV.lit (Value.int IntKind.i64 i))], [], []⟩, [decide (i ≥ 0) = true, decide (0 ≤ i) = true, decide (i < (↑(List.length (digs (Int.natAbs a))) : Int)) = true, decide (Int.toNat i < List.length (digs (Int.natAbs a))) = true, decide (0 ≤ i) = true, decide (i < (↑(List.length (digs (Int.natAbs b))) : Int)) = true, decide (Int.toNat i < List.length (digs (Int.natAbs b))) = true, (List.getD (digs (Int.natAbs a)) (Int.toNat i) 0 != List.getD (digs (Int.natAbs b)) (Int.toNat i) 0) = true, decide (0 ≤ i) = true, decide (i < (↑(List.length (digs (Int.natAbs a))) : Int)) = true, decide (Int.toNat i < List.length (digs (Int.natAbs a))) = true, decide (0 ≤ i) = true, decide (i < (↑(List.length (digs (Int.natAbs b))) : Int)) = true, decide (Int.toNat i < List.length (digs (Int.natAbs b))) = true, True]) := by kernel_rfl
theorem sizesL_1 (a b i : Int) : rndA (mkCfg Tryz.prog ctr3 bw) 60 (lpOf Tryz.prog 154 0) 0 [] [0, 1, 4, 5] [] ⟨sp 41 [(0, .wd a), (1, .wd b), (4, .lit (.int .i64 0)), (5, .lit (.int .i64 i))], [], []⟩ [true, false] [] = some (Ex.normal, ⟨sp 41 [(0, AV.wd a), (1, AV.wd b), (4, AV.lit (Value.int IntKind.i64 0)), (5, AV.lit (Value.int IntKind.i64 (i - 1)))], [], []⟩, [decide (i ≥ 0) = true, decide (0 ≤ i) = true, decide (i < (↑(List.length (digs (Int.natAbs a))) : Int)) = true, decide (Int.toNat i < List.length (digs (Int.natAbs a))) = true, decide (0 ≤ i) = true, decide (i < (↑(List.length (digs (Int.natAbs b))) : Int)) = true, decide (Int.toNat i < List.length (digs (Int.natAbs b))) = true, (List.getD (digs (Int.natAbs a)) (Int.toNat i) 0 != List.getD (digs (Int.natAbs b)) (Int.toNat i) 0) = false, inR IntKind.i64 (i - 1) = true]) := by kernel_rfl
theorem sizesL_2 (a b i : Int) : rndA (mkCfg Tryz.prog ctr3 bw) 60 (lpOf Tryz.prog 154 0) 0 [] [0, 1, 4, 5] [] ⟨sp 41 [(0, .wd a), (1, .wd b), (4, .lit (.int .i64 0)), (5, .lit (.int .i64 i))], [], []⟩ [false] [] = some (Ex.exit 0, ⟨sp 41 [(0, AV.wd a), (1, AV.wd b), (4, AV.lit (Value.int IntKind.i64 0)), (5, AV.lit (Value.int IntKind.i64 i))], [], []⟩, [decide (i ≥ 0) = false]) := by kernel_rfl
theorem sizes_1 (a b i c : Int) : funA (mkCfg Tryz.prog ctr3 bw) 60 154 [.wd a, .wd b] [false] [some (viaL Tryz.prog (lpOf Tryz.prog 154 0) [] [0,1,4,5] [] ⟨sp 41 [(0, .wd a), (1, .wd b), (4, .lit (.int .i64 0)), (5, .lit (.int .i64 (((digs b.natAbs).length : Int) - 1)))], [], []⟩ (.ret, ⟨sp 41 [(0, .wd a), (1, .wd b), (4, .lit (.int .i64 c)), (5, .lit (.int .i64 i))], [], []⟩))] = some (AV.lit (Value.int IntKind.i64 c), [((↑(List.length (digs (Int.natAbs a))) : Int) != (↑(List.length (digs (Int.natAbs b))) : Int)) = false, inR IntKind.i64 ((↑(List.length (digs (Int.natAbs a))) : Int) - 1) = true, LoopOK Tryz.prog (lpOf Tryz.prog 154 0) (viaL Tryz.prog (lpOf Tryz.prog 154 0) [] [0, 1, 4, 5] [] ⟨sp 41 [(0, AV.wd a), (1, AV.wd b), (4, AV.lit (Value.int IntKind.i64 0)), (5, AV.lit (Value.int IntKind.i64 ((↑(List.length (digs (Int.natAbs b))) : Int) - 1)))], [], []⟩ (Ex.ret, ⟨sp 41 [(0, AV.wd a), (1, AV.wd b), (4, AV.lit (Value.int IntKind.i64 c)), (5, AV.lit (Value.int IntKind.i64 i))], [], []⟩)), (⟨sp 41 [(0, AV.wd a), (1, AV.wd b), (4, AV.lit (Value.int IntKind.i64 0)), (5, AV.lit (Value.int IntKind.i64 ((↑(List.length (digs (Int.natAbs a))) : Int) - 1)))], [], []⟩ : St) = ⟨sp 41 [(0, AV.wd a), (1, AV.wd b), (4, AV.lit (Value.int IntKind.i64 0)), (5, AV.lit (Value.int IntKind.i64 ((↑(List.length (digs (Int.natAbs b))) : Int) - 1)))], [], []⟩, Loops 0 Tryz.prog (lpOf Tryz.prog 154 0) ⟨sp 41 [(0, AV.wd a), (1, AV.wd b), (4, AV.lit (Value.int IntKind.i64 0)), (5, AV.lit (Value.int IntKind.i64 ((↑(List.length (digs (Int.natAbs b))) : Int) - 1)))], [], []⟩ (Ex.ret, ⟨sp 41 [(0, AV.wd a), (1, AV.wd b), (4, AV.lit (Value.int IntKind.i64 c)), (5, AV.lit (Value.int IntKind.i64 i))], [], []⟩)]) := by kernel_rfl
theorem sizeE_1 (a b i : Int) : funA (mkCfg Tryz.prog ctr3 bw) 60 154 [.wd a, .wd b] [false] [some (viaL Tryz.prog (lpOf Tryz.prog 154 0) [] [0,1,4,5] [] ⟨sp 41 [(0, .wd a), (1, .wd b), (4, .lit (.int .i64 0)), (5, .lit (.int .i64 (((digs b.natAbs).length : Int) - 1)))], [], []⟩ (.exit 0, ⟨sp 41 [(0, .wd a), (1, .wd b), (4, .lit (.int .i64 0)), (5, .lit (.int .i64 i))], [], []⟩))] = some (AV.lit (Value.int IntKind.i64 0), [((↑(List.length (digs (Int.natAbs a))) : Int) != (↑(List.length (digs (Int.natAbs b))) : Int)) = false, inR IntKind.i64 ((↑(List.length (digs (Int.natAbs a))) : Int) - 1) = true, LoopOK Tryz.prog (lpOf Tryz.prog 154 0) (viaL Tryz.prog (lpOf Tryz.prog 154 0) [] [0, 1, 4, 5] [] ⟨sp 41 [(0, AV.wd a), (1, AV.wd b), (4, AV.lit (Value.int IntKind.i64 0)), (5, AV.lit (Value.int IntKind.i64 ((↑(List.length (digs (Int.natAbs b))) : Int) - 1)))], [], []⟩ (Ex.exit 0, ⟨sp 41 [(0, AV.wd a), (1, AV.wd b), (4, AV.lit (Value.int IntKind.i64 0)), (5, AV.lit (Value.int IntKind.i64 i))], [], []⟩)), (⟨sp 41 [(0, AV.wd a), (1, AV.wd b), (4, AV.lit (Value.int IntKind.i64 0)), (5, AV.lit (Value.int IntKind.i64 ((↑(List.length (digs (Int.natAbs a))) : Int) - 1)))], [], []⟩ : St) = ⟨sp 41 [(0, AV.wd a), (1, AV.wd b), (4, AV.lit (Value.int IntKind.i64 0)), (5, AV.lit (Value.int IntKind.i64 ((↑(List.length (digs (Int.natAbs b))) : Int) - 1)))], [], []⟩, Loops 0 Tryz.prog (lpOf Tryz.prog 154 0) ⟨sp 41 [(0, AV.wd a), (1, AV.wd b), (4, AV.lit (Value.int IntKind.i64 0)), (5, AV.lit (Value.int IntKind.i64 ((↑(List.length (digs (Int.natAbs b))) : Int) - 1)))], [], []⟩ (Ex.exit 0, ⟨sp 41 [(0, AV.wd a), (1, AV.wd b), (4, AV.lit (Value.int IntKind.i64 0)), (5, AV.lit (Value.int IntKind.i64 i))], [], []⟩)]) := by kernel_rfl
theorem sizeN_0 (a b : Int) : funA (mkCfg Tryz.prog ctr3 bw) 60 154 [.wd a, .wd b] [true] [] = some (AV.lit (Value.int IntKind.i64 (cmpI (↑(List.length (digs (Int.natAbs a))) : Int) (↑(List.length (digs (Int.natAbs b))) : Int))), [((↑(List.length (digs (Int.natAbs a))) : Int) != (↑(List.length (digs (Int.natAbs b))) : Int)) = true, True]) := by kernel_rfl

theorem top_lt {a a' : List Int} (x y : Int) (d : List Int) (ha : Digs a) (ha' : Digs a') (hl : a.length = a'.length) (h : x < y) : vl (a ++ x :: d) < vl (a' ++ y :: d) := by
  have h1 := vl_lt ha
  have h2 := vl_nonneg ha'
  rw [vl_append, vl_append, ← hl]
  simp only [vl]
  have h3 : (100000000 : Int) ^ a.length * (x + 100000000 * vl d + 1) ≤ 100000000 ^ a.length * (y + 100000000 * vl d) := Int.mul_le_mul_of_nonneg_left (by omega) (pow_nn _)
  rw [Int.mul_add (100000000 ^ a.length) _ 1, Int.mul_one] at h3
  omega

theorem split_at (l : List Int) (k : Nat) (h : k < l.length) : l = l.take k ++ l.getD k 0 :: l.drop (k + 1) := by
  have e : l.getD k 0 = l[k] := by simp [List.getD, h]
  rw [e, ← List.drop_eq_getElem_cons h, List.take_append_drop]

theorem Digs_take {l : List Int} (h : Digs l) (k : Nat) : Digs (l.take k) := fun d hd => h d (List.mem_of_mem_take hd)
theorem Digs_drop {l : List Int} (h : Digs l) (k : Nat) : Digs (l.drop k) := fun d hd => h d (List.mem_of_mem_drop hd)

theorem sizes_loop (a b : Int) (hlen : (digs a.natAbs).length = (digs b.natAbs).length) (hf : (digs a.natAbs).length ≤ 1048576) : ∀ k : Nat, k ≤ (digs a.natAbs).length → (digs a.natAbs).drop k = (digs b.natAbs).drop k →
    (∃ i c, c = cmpI (a.natAbs : Int) (b.natAbs : Int) ∧ Loops 0 Tryz.prog (lpOf Tryz.prog 154 0) ⟨sp 41 [(0, .wd a), (1, .wd b), (4, .lit (.int .i64 0)), (5, .lit (.int .i64 ((k : Int) - 1)))], [], []⟩ (.ret, ⟨sp 41 [(0, .wd a), (1, .wd b), (4, .lit (.int .i64 c)), (5, .lit (.int .i64 i))], [], []⟩)) ∨
    (∃ i, a.natAbs = b.natAbs ∧ Loops 0 Tryz.prog (lpOf Tryz.prog 154 0) ⟨sp 41 [(0, .wd a), (1, .wd b), (4, .lit (.int .i64 0)), (5, .lit (.int .i64 ((k : Int) - 1)))], [], []⟩ (.exit 0, ⟨sp 41 [(0, .wd a), (1, .wd b), (4, .lit (.int .i64 0)), (5, .lit (.int .i64 i))], [], []⟩))
  | 0, hk, hd => by
    refine .inr ⟨_, ?_, Loops.fin (LS.of ok3 (sizesL_2 a b ((0 : Nat) - 1)) (by (repeat' (first | exact AllC.nil | refine AllC.cons ?_ ?_)); all_goals (first | exact viaL_ok | ((with_reducible refine inR64.2 ?_); omega) | (with_reducible refine pFl ?_ ?_ <;> omega) | ((with_reducible refine decide_eq_true ?_); omega) | ((with_reducible refine decide_eq_false ?_); omega) | omega | (simp [] <;> omega) | assumption | rfl))) (by simp [Ex.toExit])⟩
    rw [List.drop_zero, List.drop_zero] at hd
    have h1 := vl_digs a.natAbs
    rw [hd, vl_digs] at h1
    omega
  | k + 1, hk, hd => by
    have hnat : Int.toNat (((k + 1 : Nat) : Int) - 1) = k := by omega
    have hka : k < (digs a.natAbs).length := by omega
    have hkb : k < (digs b.natAbs).length := by omega
    by_cases hne : (digs a.natAbs).getD k 0 = (digs b.natAbs).getD k 0
    · have hx : ((digs a.natAbs).getD k 0 != (digs b.natAbs).getD k 0) = false := by rw [hne]; exact bne_self_eq_false (α := Int) _
      have h := LS.of ok3 (sizesL_1 a b (((k + 1 : Nat) : Int) - 1)) (by
        rw [hnat]
        exact (by (repeat' (first | exact AllC.nil | refine AllC.cons ?_ ?_)); all_goals (first | exact viaL_ok | ((with_reducible refine inR64.2 ?_); omega) | (with_reducible refine pFl ?_ ?_ <;> omega) | ((with_reducible refine decide_eq_true ?_); omega) | ((with_reducible refine decide_eq_false ?_); omega) | omega | (simp [hne, hka, hkb] <;> omega) | assumption | rfl)))
      have e : ((k + 1 : Nat) : Int) - 1 - 1 = (k : Int) - 1 := by omega
      rw [e] at h
      have hd2 : (digs a.natAbs).drop k = (digs b.natAbs).drop k := by
        rw [List.drop_eq_getElem_cons hka, List.drop_eq_getElem_cons hkb, hd]
        congr 1
        simpa [List.getD, hka, hkb] using hne
      rcases sizes_loop a b hlen hf k (by omega) hd2 with ⟨i, c, h1, h2⟩ | ⟨i, h1, h2⟩
      · exact .inl ⟨i, c, h1, Loops.go h h2⟩
      · exact .inr ⟨i, h1, Loops.go h h2⟩
    · have hx : ((digs a.natAbs).getD k 0 != (digs b.natAbs).getD k 0) = true := bne_iff_ne.2 hne
      have h := LS.of ok3 (sizesL_0 a b (((k + 1 : Nat) : Int) - 1)) (by
        rw [hnat]
        exact (by (repeat' (first | exact AllC.nil | refine AllC.cons ?_ ?_)); all_goals (first | exact viaL_ok | ((with_reducible refine inR64.2 ?_); omega) | (with_reducible refine pFl ?_ ?_ <;> omega) | ((with_reducible refine decide_eq_true ?_); omega) | ((with_reducible refine decide_eq_false ?_); omega) | omega | (simp [hne, hka, hkb] <;> omega) | assumption | rfl)))
      rw [hnat] at h
      refine .inl ⟨_, _, ?_, Loops.fin h (by simp [Ex.toExit])⟩
      have va := vl_digs a.natAbs
      have vb := vl_digs b.natAbs
      rw [split_at _ k hka] at va
      rw [split_at _ k hkb, ← hd] at vb
      have hll : ((digs a.natAbs).take k).length = ((digs b.natAbs).take k).length := by simp; omega
      unfold cmpI
      by_cases hlt : (digs a.natAbs).getD k 0 < (digs b.natAbs).getD k 0
      · have := top_lt _ _ ((digs a.natAbs).drop (k + 1)) (Digs_take (Digs_digs a.natAbs) k) (Digs_take (Digs_digs b.natAbs) k) hll hlt
        rw [if_pos hlt, if_pos (by omega)]
      · have := top_lt _ _ ((digs a.natAbs).drop (k + 1)) (Digs_take (Digs_digs b.natAbs) k) (Digs_take (Digs_digs a.natAbs) k) hll.symm (show (digs b.natAbs).getD k 0 < (digs a.natAbs).getD k 0 by omega)
        rw [if_neg hlt, if_pos (by omega), if_neg (by omega), if_pos (by omega)]

/-- The one that's longer is greater. -/
theorem lt_of_len {m n : Nat} (h : (digs m).length < (digs n).length) : m < n := by
  have h1 := digs_lt m
  rcases Nat.lt_or_ge m n with h2 | h2
  · exact h2
  · exfalso
    have := digs_length n (digs m).length (by omega)
    omega

def pDD (a b : Int) : Prop := fits a ∧ fits b
instance tstDD {a b : Int} : Tst (pDD a b) := inferInstanceAs (Tst (fits a ∧ fits b))
theorem sizes_fc (a b : Int) (h : pDD a b) : FC Tryz.prog 154 [.wd a, .wd b] (.lit (.int .i64 (cmpI (a.natAbs : Int) (b.natAbs : Int)))) := by
  obtain ⟨ha, hb⟩ := h
  unfold fits dl at ha hb
  by_cases hl : (digs a.natAbs).length = (digs b.natAbs).length
  · rcases sizes_loop a b hl ha _ (Nat.le_refl _) (by rw [List.drop_length, hl, List.drop_length]) with ⟨i, c, h1, h2⟩ | ⟨i, h1, h2⟩
    · rw [hl] at h2
      rw [← h1]
      refine fc_fun ok3 (sizes_1 a b i c) ?_
      rw [hl]
      exact (by (repeat' (first | exact AllC.nil | refine AllC.cons ?_ ?_)); all_goals (first | exact viaL_ok | ((with_reducible refine inR64.2 ?_); omega) | (with_reducible refine pFl ?_ ?_ <;> omega) | ((with_reducible refine decide_eq_true ?_); omega) | ((with_reducible refine decide_eq_false ?_); omega) | omega | (simp [] <;> omega) | assumption | rfl))
    · rw [hl] at h2
      have e : cmpI (a.natAbs : Int) (b.natAbs : Int) = 0 := by unfold cmpI; rw [if_neg (by omega), if_neg (by omega)]
      rw [e]
      refine fc_fun ok3 (sizeE_1 a b i) ?_
      rw [hl]
      exact (by (repeat' (first | exact AllC.nil | refine AllC.cons ?_ ?_)); all_goals (first | exact viaL_ok | ((with_reducible refine inR64.2 ?_); omega) | (with_reducible refine pFl ?_ ?_ <;> omega) | ((with_reducible refine decide_eq_true ?_); omega) | ((with_reducible refine decide_eq_false ?_); omega) | omega | (simp [] <;> omega) | assumption | rfl))
  · have := fc_fun ok3 (sizeN_0 a b) (.cons (by simp; omega) (.cons trivial .nil))
    have e : cmpI ((digs a.natAbs).length : Int) ((digs b.natAbs).length : Int) = cmpI (a.natAbs : Int) (b.natAbs : Int) := by
      unfold cmpI
      by_cases h1 : (digs a.natAbs).length < (digs b.natAbs).length
      · have := lt_of_len h1
        rw [if_pos (by omega), if_pos (by omega)]
      · have := lt_of_len (show (digs b.natAbs).length < (digs a.natAbs).length by omega)
        rw [if_neg (by omega), if_pos (by omega), if_neg (by omega), if_pos (by omega)]
    rw [← e]; exact this

def ctr4 : Ctr := (154, cDD pDD (fun a b => .lit (.int .i64 (cmpI (a.natAbs : Int) (b.natAbs : Int))))) :: ctr3
theorem ctr4_all : ∀ p ∈ ctr4, CtrOK Tryz.prog p.1 p.2 := CAll.cons (cDD_ok sizes_fc) ctr3_all
theorem ok4 : (mkCfg Tryz.prog ctr4 bw).OK := cfg_ok ctr4_all

end Go.Proofs.YtcpgkgldibobeaaGreatDoor
end

section
open Go Go.Ev
namespace Go.Proofs.YtcpgkgldibobeaaGreatDoor
open Go.Proofs
abbrev rw3 (na nb : Bool) (a b : Int) : List Row := [.flat [.lit (.bool na), .wd a] true, .flat [.lit (.bool nb), .wd b] true, .flat [.lit (.bool false), .lit (.slice none 0 0)] true]
abbrev PZ (na nb : Bool) (a b p q : Int) : St := ⟨sp 97 [(2, .ref 0 0), (4, .ref 2 0), (5, .wd p), (6, .wd q), (7, .own 3 0 0 1), (8, .lit (.int .i64 0)), (31, .wd p), (32, .lit (.int .i64 ((digs p.natAbs).length : Int))), (33, .lit (.int .i64 0))], [.flat [.lit (.bool na), .wd a] true, .flat [.lit (.bool nb), .wd b] true, .flat [.lit (.bool false), .lit (.slice none 0 0)] true, .ints [] true], [3]⟩
abbrev PR (na nb : Bool) (a b p q i c : Int) (n : Nat) (out : List Int) : St := ⟨sp 97 [(2, .ref 0 0), (4, .ref 2 0), (5, .wd p), (6, .wd q), (7, .own 4 0 n 1), (8, .lit (.int .i64 c)), (31, .wd p), (32, .lit (.int .i64 ((digs p.natAbs).length : Int))), (33, .lit (.int .i64 i))], [.flat [.lit (.bool na), .wd a] true, .flat [.lit (.bool nb), .wd b] true, .flat [.lit (.bool false), .lit (.slice none 0 0)] true, .dead, .ints out true], [3]⟩
abbrev PL (na nb : Bool) (a b q bo i : Int) (n : Nat) (l : List Int) : St := ⟨sp 47 [(0, .own 4 0 n 1), (1, .wd q), (5, .lit (.int .i64 bo)), (7, .own 4 0 n 1), (8, .lit (.int .i64 (n : Int))), (9, .lit (.int .i64 i))], [.flat [.lit (.bool na), .wd a] true, .flat [.lit (.bool nb), .wd b] true, .flat [.lit (.bool false), .lit (.slice none 0 0)] true, .dead, .ints l true], [3, 4]⟩
end Go.Proofs.YtcpgkgldibobeaaGreatDoor
end

section
open Go Go.Ev Go.RowKit
namespace Go.Proofs.YtcpgkgldibobeaaGreatDoor
open Go.Proofs
set_option maxRecDepth 100000
set_option maxHeartbeats 1000000
set_option linter.unusedVariables false
set_option linter.unusedSimpArgs false

theorem plZ_0 (na nb : Bool) (a b p q : Int) : rndA (mkCfg Tryz.prog ctr4 bw) 60 (lpOf Tryz.prog 107 0) 4 [5] [2, 4, 5, 6, 7, 8, 31, 32, 33] [3] (PZ na nb a b p q) [true, true] [] = some (Ex.normal, ⟨sp 97 [(2, AV.ref 0 0), (4, AV.ref 2 0), (5, AV.wd p), (6, AV.wd q), (7, AV.own 4 0 1 1), (8, AV.lit (Value.int IntKind.i64 (Int.tdiv (List.getD (digs (Int.natAbs p)) 0 0 + 0 + List.getD (digs (Int.natAbs q)) 0 0) 100000000))), (31, AV.wd p), (32, AV.lit (Value.int IntKind.i64 (↑(List.length (digs (Int.natAbs p))) : Int))), (33, AV.lit (Value.int IntKind.i64 1))], [Row.flat [AV.lit (Value.bool na), AV.wd a] true, Row.flat [AV.lit (Value.bool nb), AV.wd b] true, Row.flat [AV.lit (Value.bool false), AV.lit (Value.slice none 0 0)] true, Row.dead, Row.ints [Int.tmod (List.getD (digs (Int.natAbs p)) 0 0 + 0 + List.getD (digs (Int.natAbs q)) 0 0) 100000000] true], [3]⟩, [decide (0 < (↑(List.length (digs (Int.natAbs p))) : Int)) = true, true = true, decide (0 < (↑(List.length (digs (Int.natAbs p))) : Int)) = true, decide (0 < List.length (digs (Int.natAbs p))) = true, inR IntKind.i64 (List.getD (digs (Int.natAbs p)) 0 0 + 0) = true, decide (0 < (↑(List.length (digs (Int.natAbs q))) : Int)) = true, true = true, decide (0 < (↑(List.length (digs (Int.natAbs q))) : Int)) = true, decide (0 < List.length (digs (Int.natAbs q))) = true, inR IntKind.i64 (List.getD (digs (Int.natAbs p)) 0 0 + 0 + List.getD (digs (Int.natAbs q)) 0 0) = true, true = true, inR IntKind.i64 (Int.tdiv (List.getD (digs (Int.natAbs p)) 0 0 + 0 + List.getD (digs (Int.natAbs q)) 0 0) 100000000) = true, true = true, true = true, true = true, true = true, decide (List.length (List.take 1 [Int.tmod (List.getD (digs (Int.natAbs p)) 0 0 + 0 + List.getD (digs (Int.natAbs q)) 0 0) 100000000]) = 1) = true, true = true]) := by kernel_rfl
theorem plZ_1 (na nb : Bool) (a b p q : Int) : rndA (mkCfg Tryz.prog ctr4 bw) 60 (lpOf Tryz.prog 107 0) 4 [5] [2, 4, 5, 6, 7, 8, 31, 32, 33] [3] (PZ na nb a b p q) [true, false] [] = some (Ex.normal, ⟨sp 97 [(2, AV.ref 0 0), (4, AV.ref 2 0), (5, AV.wd p), (6, AV.wd q), (7, AV.own 4 0 1 1), (8, AV.lit (Value.int IntKind.i64 (Int.tdiv (List.getD (digs (Int.natAbs p)) 0 0 + 0) 100000000))), (31, AV.wd p), (32, AV.lit (Value.int IntKind.i64 (↑(List.length (digs (Int.natAbs p))) : Int))), (33, AV.lit (Value.int IntKind.i64 1))], [Row.flat [AV.lit (Value.bool na), AV.wd a] true, Row.flat [AV.lit (Value.bool nb), AV.wd b] true, Row.flat [AV.lit (Value.bool false), AV.lit (Value.slice none 0 0)] true, Row.dead, Row.ints [Int.tmod (List.getD (digs (Int.natAbs p)) 0 0 + 0) 100000000] true], [3]⟩, [decide (0 < (↑(List.length (digs (Int.natAbs p))) : Int)) = true, true = true, decide (0 < (↑(List.length (digs (Int.natAbs p))) : Int)) = true, decide (0 < List.length (digs (Int.natAbs p))) = true, inR IntKind.i64 (List.getD (digs (Int.natAbs p)) 0 0 + 0) = true, decide (0 < (↑(List.length (digs (Int.natAbs q))) : Int)) = false, true = true, inR IntKind.i64 (Int.tdiv (List.getD (digs (Int.natAbs p)) 0 0 + 0) 100000000) = true, true = true, true = true, true = true, true = true, decide (List.length (List.take 1 [Int.tmod (List.getD (digs (Int.natAbs p)) 0 0 + 0) 100000000]) = 1) = true, true = true]) := by kernel_rfl
theorem plX_2 (na nb : Bool) (a b p q : Int) : rndA (mkCfg Tryz.prog ctr4 bw) 60 (lpOf Tryz.prog 107 0) 4 [] [2, 4, 5, 6, 7, 8, 31, 32, 33] [3] (PZ na nb a b p q) [false] [] = some (Ex.exit 0, ⟨sp 97 [(2, AV.ref 0 0), (4, AV.ref 2 0), (5, AV.wd p), (6, AV.wd q), (7, AV.own 3 0 0 1), (8, AV.lit (Value.int IntKind.i64 0)), (31, AV.wd p), (32, AV.lit (Value.int IntKind.i64 (↑(List.length (digs (Int.natAbs p))) : Int))), (33, AV.lit (Value.int IntKind.i64 0))], [Row.flat [AV.lit (Value.bool na), AV.wd a] true, Row.flat [AV.lit (Value.bool nb), AV.wd b] true, Row.flat [AV.lit (Value.bool false), AV.lit (Value.slice none 0 0)] true, Row.ints [] true], [3]⟩, [decide (0 < (↑(List.length (digs (Int.natAbs p))) : Int)) = false]) := by kernel_rfl
theorem plR_0 (na nb : Bool) (a b p q i c : Int) (n : Nat) (out : List Int) : rndA (mkCfg Tryz.prog ctr4 bw) 60 (lpOf Tryz.prog 107 0) 4 [6] [2, 4, 5, 6, 7, 8, 31, 32, 33] [3] (PR na nb a b p q i c n out) [true, true] [] = some (Ex.normal, ⟨sp 97 [(2, AV.ref 0 0), (4, AV.ref 2 0), (5, AV.wd p), (6, AV.wd q), (7, AV.own 4 0 (n + 1) 1), (8, AV.lit (Value.int IntKind.i64 (Int.tdiv (List.getD (digs (Int.natAbs p)) (Int.toNat i) 0 + c + List.getD (digs (Int.natAbs q)) (Int.toNat i) 0) 100000000))), (31, AV.wd p), (32, AV.lit (Value.int IntKind.i64 (↑(List.length (digs (Int.natAbs p))) : Int))), (33, AV.lit (Value.int IntKind.i64 (i + 1)))], [Row.flat [AV.lit (Value.bool na), AV.wd a] true, Row.flat [AV.lit (Value.bool nb), AV.wd b] true, Row.flat [AV.lit (Value.bool false), AV.lit (Value.slice none 0 0)] true, Row.dead, Row.ints (List.take n out ++ List.take 1 [Int.tmod (List.getD (digs (Int.natAbs p)) (Int.toNat i) 0 + c + List.getD (digs (Int.natAbs q)) (Int.toNat i) 0) 100000000]) true], [3]⟩, [decide (i < (↑(List.length (digs (Int.natAbs p))) : Int)) = true, decide (0 ≤ i) = true, decide (i < (↑(List.length (digs (Int.natAbs p))) : Int)) = true, decide (Int.toNat i < List.length (digs (Int.natAbs p))) = true, inR IntKind.i64 (List.getD (digs (Int.natAbs p)) (Int.toNat i) 0 + c) = true, decide (i < (↑(List.length (digs (Int.natAbs q))) : Int)) = true, decide (0 ≤ i) = true, decide (i < (↑(List.length (digs (Int.natAbs q))) : Int)) = true, decide (Int.toNat i < List.length (digs (Int.natAbs q))) = true, inR IntKind.i64 (List.getD (digs (Int.natAbs p)) (Int.toNat i) 0 + c + List.getD (digs (Int.natAbs q)) (Int.toNat i) 0) = true, true = true, inR IntKind.i64 (Int.tdiv (List.getD (digs (Int.natAbs p)) (Int.toNat i) 0 + c + List.getD (digs (Int.natAbs q)) (Int.toNat i) 0) 100000000) = true, true = true, decide ((n + 1) * 8 ≤ 140737488355328) = true, decide (n + 1 ≤ 4611686018427387904) = true, decide (n ≤ List.length out) = true, decide (List.length (List.take 1 [Int.tmod (List.getD (digs (Int.natAbs p)) (Int.toNat i) 0 + c + List.getD (digs (Int.natAbs q)) (Int.toNat i) 0) 100000000]) = 1) = true, inR IntKind.i64 (i + 1) = true]) := by kernel_rfl
theorem plR_1 (na nb : Bool) (a b p q i c : Int) (n : Nat) (out : List Int) : rndA (mkCfg Tryz.prog ctr4 bw) 60 (lpOf Tryz.prog 107 0) 4 [6] [2, 4, 5, 6, 7, 8, 31, 32, 33] [3] (PR na nb a b p q i c n out) [true, false] [] = some (Ex.normal, ⟨sp 97 [(2, AV.ref 0 0), (4, AV.ref 2 0), (5, AV.wd p), (6, AV.wd q), (7, AV.own 4 0 (n + 1) 1), (8, AV.lit (Value.int IntKind.i64 (Int.tdiv (List.getD (digs (Int.natAbs p)) (Int.toNat i) 0 + c) 100000000))), (31, AV.wd p), (32, AV.lit (Value.int IntKind.i64 (↑(List.length (digs (Int.natAbs p))) : Int))), (33, AV.lit (Value.int IntKind.i64 (i + 1)))], [Row.flat [AV.lit (Value.bool na), AV.wd a] true, Row.flat [AV.lit (Value.bool nb), AV.wd b] true, Row.flat [AV.lit (Value.bool false), AV.lit (Value.slice none 0 0)] true, Row.dead, Row.ints (List.take n out ++ List.take 1 [Int.tmod (List.getD (digs (Int.natAbs p)) (Int.toNat i) 0 + c) 100000000]) true], [3]⟩, [decide (i < (↑(List.length (digs (Int.natAbs p))) : Int)) = true, decide (0 ≤ i) = true, decide (i < (↑(List.length (digs (Int.natAbs p))) : Int)) = true, decide (Int.toNat i < List.length (digs (Int.natAbs p))) = true, inR IntKind.i64 (List.getD (digs (Int.natAbs p)) (Int.toNat i) 0 + c) = true, decide (i < (↑(List.length (digs (Int.natAbs q))) : Int)) = false, true = true, inR IntKind.i64 (Int.tdiv (List.getD (digs (Int.natAbs p)) (Int.toNat i) 0 + c) 100000000) = true, true = true, decide ((n + 1) * 8 ≤ 140737488355328) = true, decide (n + 1 ≤ 4611686018427387904) = true, decide (n ≤ List.length out) = true, decide (List.length (List.take 1 [Int.tmod (List.getD (digs (Int.natAbs p)) (Int.toNat i) 0 + c) 100000000]) = 1) = true, inR IntKind.i64 (i + 1) = true]) := by kernel_rfl
theorem plE_2 (na nb : Bool) (a b p q i c : Int) (n : Nat) (out : List Int) : rndA (mkCfg Tryz.prog ctr4 bw) 60 (lpOf Tryz.prog 107 0) 4 [4] [2, 4, 5, 6, 7, 8, 31, 32, 33] [3] (PR na nb a b p q i c n out) [false] [] = some (Ex.exit 0, ⟨sp 97 [(2, AV.ref 0 0), (4, AV.ref 2 0), (5, AV.wd p), (6, AV.wd q), (7, AV.own 4 0 n 1), (8, AV.lit (Value.int IntKind.i64 c)), (31, AV.wd p), (32, AV.lit (Value.int IntKind.i64 (↑(List.length (digs (Int.natAbs p))) : Int))), (33, AV.lit (Value.int IntKind.i64 i))], [Row.flat [AV.lit (Value.bool na), AV.wd a] true, Row.flat [AV.lit (Value.bool nb), AV.wd b] true, Row.flat [AV.lit (Value.bool false), AV.lit (Value.slice none 0 0)] true, Row.dead, Row.ints out true], [3]⟩, [decide (i < (↑(List.length (digs (Int.natAbs p))) : Int)) = false]) := by kernel_rfl
theorem leL_0 (na nb : Bool) (a b q bo i : Int) (n : Nat) (l : List Int) : rndA (mkCfg Tryz.prog ctr4 bw) 60 (lpOf Tryz.prog 155 0) 5 [] [0, 1, 5, 7, 8, 9] [3, 4] (PL na nb a b q bo i n l) [true, true, true] [] = some (Ex.normal, ⟨sp 47 [(0, AV.own 4 0 n 1), (1, AV.wd q), (5, AV.lit (Value.int IntKind.i64 1)), (7, AV.own 4 0 n 1), (8, AV.lit (Value.int IntKind.i64 (↑n : Int))), (9, AV.lit (Value.int IntKind.i64 (i + 1)))], [Row.flat [AV.lit (Value.bool na), AV.wd a] true, Row.flat [AV.lit (Value.bool nb), AV.wd b] true, Row.flat [AV.lit (Value.bool false), AV.lit (Value.slice none 0 0)] true, Row.dead, Row.ints (List.set (List.set (List.set l (0 + Int.toNat i * 1) (List.getD l (0 + Int.toNat i * 1) 0 - bo)) (0 + Int.toNat i * 1) (List.getD (List.set l (0 + Int.toNat i * 1) (List.getD l (0 + Int.toNat i * 1) 0 - bo)) (0 + Int.toNat i * 1) 0 - List.getD (digs (Int.natAbs q)) (Int.toNat i) 0)) (0 + Int.toNat i * 1) (List.getD (List.set (List.set l (0 + Int.toNat i * 1) (List.getD l (0 + Int.toNat i * 1) 0 - bo)) (0 + Int.toNat i * 1) (List.getD (List.set l (0 + Int.toNat i * 1) (List.getD l (0 + Int.toNat i * 1) 0 - bo)) (0 + Int.toNat i * 1) 0 - List.getD (digs (Int.natAbs q)) (Int.toNat i) 0)) (0 + Int.toNat i * 1) 0 + 100000000)) true], [3, 4]⟩, [decide (i < (↑n : Int)) = true, decide (0 ≤ i) = true, decide (i < (↑n : Int)) = true, decide (0 + Int.toNat i * 1 < List.length l) = true, inR IntKind.i64 (List.getD l (0 + Int.toNat i * 1) 0 - bo) = true, decide (0 ≤ i) = true, decide (i < (↑n : Int)) = true, decide (0 + Int.toNat i * 1 < List.length l) = true, decide (i < (↑(List.length (digs (Int.natAbs q))) : Int)) = true, decide (0 ≤ i) = true, decide (i < (↑n : Int)) = true, decide (0 ≤ i) = true, decide (i < (↑(List.length (digs (Int.natAbs q))) : Int)) = true, decide (Int.toNat i < List.length (digs (Int.natAbs q))) = true, decide (0 + Int.toNat i * 1 < List.length (List.set l (0 + Int.toNat i * 1) (List.getD l (0 + Int.toNat i * 1) 0 - bo))) = true, inR IntKind.i64 (List.getD (List.set l (0 + Int.toNat i * 1) (List.getD l (0 + Int.toNat i * 1) 0 - bo)) (0 + Int.toNat i * 1) 0 - List.getD (digs (Int.natAbs q)) (Int.toNat i) 0) = true, decide (0 ≤ i) = true, decide (i < (↑n : Int)) = true, decide (0 + Int.toNat i * 1 < List.length (List.set l (0 + Int.toNat i * 1) (List.getD l (0 + Int.toNat i * 1) 0 - bo))) = true, decide (0 ≤ i) = true, decide (i < (↑n : Int)) = true, decide (0 + Int.toNat i * 1 < List.length (List.set (List.set l (0 + Int.toNat i * 1) (List.getD l (0 + Int.toNat i * 1) 0 - bo)) (0 + Int.toNat i * 1) (List.getD (List.set l (0 + Int.toNat i * 1) (List.getD l (0 + Int.toNat i * 1) 0 - bo)) (0 + Int.toNat i * 1) 0 - List.getD (digs (Int.natAbs q)) (Int.toNat i) 0))) = true, decide (List.getD (List.set (List.set l (0 + Int.toNat i * 1) (List.getD l (0 + Int.toNat i * 1) 0 - bo)) (0 + Int.toNat i * 1) (List.getD (List.set l (0 + Int.toNat i * 1) (List.getD l (0 + Int.toNat i * 1) 0 - bo)) (0 + Int.toNat i * 1) 0 - List.getD (digs (Int.natAbs q)) (Int.toNat i) 0)) (0 + Int.toNat i * 1) 0 < 0) = true, decide (0 ≤ i) = true, decide (i < (↑n : Int)) = true, decide (0 + Int.toNat i * 1 < List.length (List.set (List.set l (0 + Int.toNat i * 1) (List.getD l (0 + Int.toNat i * 1) 0 - bo)) (0 + Int.toNat i * 1) (List.getD (List.set l (0 + Int.toNat i * 1) (List.getD l (0 + Int.toNat i * 1) 0 - bo)) (0 + Int.toNat i * 1) 0 - List.getD (digs (Int.natAbs q)) (Int.toNat i) 0))) = true, inR IntKind.i64 (List.getD (List.set (List.set l (0 + Int.toNat i * 1) (List.getD l (0 + Int.toNat i * 1) 0 - bo)) (0 + Int.toNat i * 1) (List.getD (List.set l (0 + Int.toNat i * 1) (List.getD l (0 + Int.toNat i * 1) 0 - bo)) (0 + Int.toNat i * 1) 0 - List.getD (digs (Int.natAbs q)) (Int.toNat i) 0)) (0 + Int.toNat i * 1) 0 + 100000000) = true, decide (0 ≤ i) = true, decide (i < (↑n : Int)) = true, decide (0 + Int.toNat i * 1 < List.length (List.set (List.set l (0 + Int.toNat i * 1) (List.getD l (0 + Int.toNat i * 1) 0 - bo)) (0 + Int.toNat i * 1) (List.getD (List.set l (0 + Int.toNat i * 1) (List.getD l (0 + Int.toNat i * 1) 0 - bo)) (0 + Int.toNat i * 1) 0 - List.getD (digs (Int.natAbs q)) (Int.toNat i) 0))) = true, inR IntKind.i64 (i + 1) = true]) := by kernel_rfl
theorem leL_1 (na nb : Bool) (a b q bo i : Int) (n : Nat) (l : List Int) : rndA (mkCfg Tryz.prog ctr4 bw) 60 (lpOf Tryz.prog 155 0) 5 [] [0, 1, 5, 7, 8, 9] [3, 4] (PL na nb a b q bo i n l) [true, true, false] [] = some (Ex.normal, ⟨sp 47 [(0, AV.own 4 0 n 1), (1, AV.wd q), (5, AV.lit (Value.int IntKind.i64 0)), (7, AV.own 4 0 n 1), (8, AV.lit (Value.int IntKind.i64 (↑n : Int))), (9, AV.lit (Value.int IntKind.i64 (i + 1)))], [Row.flat [AV.lit (Value.bool na), AV.wd a] true, Row.flat [AV.lit (Value.bool nb), AV.wd b] true, Row.flat [AV.lit (Value.bool false), AV.lit (Value.slice none 0 0)] true, Row.dead, Row.ints (List.set (List.set l (0 + Int.toNat i * 1) (List.getD l (0 + Int.toNat i * 1) 0 - bo)) (0 + Int.toNat i * 1) (List.getD (List.set l (0 + Int.toNat i * 1) (List.getD l (0 + Int.toNat i * 1) 0 - bo)) (0 + Int.toNat i * 1) 0 - List.getD (digs (Int.natAbs q)) (Int.toNat i) 0)) true], [3, 4]⟩, [decide (i < (↑n : Int)) = true, decide (0 ≤ i) = true, decide (i < (↑n : Int)) = true, decide (0 + Int.toNat i * 1 < List.length l) = true, inR IntKind.i64 (List.getD l (0 + Int.toNat i * 1) 0 - bo) = true, decide (0 ≤ i) = true, decide (i < (↑n : Int)) = true, decide (0 + Int.toNat i * 1 < List.length l) = true, decide (i < (↑(List.length (digs (Int.natAbs q))) : Int)) = true, decide (0 ≤ i) = true, decide (i < (↑n : Int)) = true, decide (0 ≤ i) = true, decide (i < (↑(List.length (digs (Int.natAbs q))) : Int)) = true, decide (Int.toNat i < List.length (digs (Int.natAbs q))) = true, decide (0 + Int.toNat i * 1 < List.length (List.set l (0 + Int.toNat i * 1) (List.getD l (0 + Int.toNat i * 1) 0 - bo))) = true, inR IntKind.i64 (List.getD (List.set l (0 + Int.toNat i * 1) (List.getD l (0 + Int.toNat i * 1) 0 - bo)) (0 + Int.toNat i * 1) 0 - List.getD (digs (Int.natAbs q)) (Int.toNat i) 0) = true, decide (0 ≤ i) = true, decide (i < (↑n : Int)) = true, decide (0 + Int.toNat i * 1 < List.length (List.set l (0 + Int.toNat i * 1) (List.getD l (0 + Int.toNat i * 1) 0 - bo))) = true, decide (0 ≤ i) = true, decide (i < (↑n : Int)) = true, decide (0 + Int.toNat i * 1 < List.length (List.set (List.set l (0 + Int.toNat i * 1) (List.getD l (0 + Int.toNat i * 1) 0 - bo)) (0 + Int.toNat i * 1) (List.getD (List.set l (0 + Int.toNat i * 1) (List.getD l (0 + Int.toNat i * 1) 0 - bo)) (0 + Int.toNat i * 1) 0 - List.getD (digs (Int.natAbs q)) (Int.toNat i) 0))) = true, decide (List.getD (List.set (List.set l (0 + Int.toNat i * 1) (List.getD l (0 + Int.toNat i * 1) 0 - bo)) (0 + Int.toNat i * 1) (List.getD (List.set l (0 + Int.toNat i * 1) (List.getD l (0 + Int.toNat i * 1) 0 - bo)) (0 + Int.toNat i * 1) 0 - List.getD (digs (Int.natAbs q)) (Int.toNat i) 0)) (0 + Int.toNat i * 1) 0 < 0) = false, inR IntKind.i64 (i + 1) = true]) := by kernel_rfl
theorem leL_2 (na nb : Bool) (a b q bo i : Int) (n : Nat) (l : List Int) : rndA (mkCfg Tryz.prog ctr4 bw) 60 (lpOf Tryz.prog 155 0) 5 [] [0, 1, 5, 7, 8, 9] [3, 4] (PL na nb a b q bo i n l) [true, false, true] [] = some (Ex.normal, ⟨sp 47 [(0, AV.own 4 0 n 1), (1, AV.wd q), (5, AV.lit (Value.int IntKind.i64 1)), (7, AV.own 4 0 n 1), (8, AV.lit (Value.int IntKind.i64 (↑n : Int))), (9, AV.lit (Value.int IntKind.i64 (i + 1)))], [Row.flat [AV.lit (Value.bool na), AV.wd a] true, Row.flat [AV.lit (Value.bool nb), AV.wd b] true, Row.flat [AV.lit (Value.bool false), AV.lit (Value.slice none 0 0)] true, Row.dead, Row.ints (List.set (List.set l (0 + Int.toNat i * 1) (List.getD l (0 + Int.toNat i * 1) 0 - bo)) (0 + Int.toNat i * 1) (List.getD (List.set l (0 + Int.toNat i * 1) (List.getD l (0 + Int.toNat i * 1) 0 - bo)) (0 + Int.toNat i * 1) 0 + 100000000)) true], [3, 4]⟩, [decide (i < (↑n : Int)) = true, decide (0 ≤ i) = true, decide (i < (↑n : Int)) = true, decide (0 + Int.toNat i * 1 < List.length l) = true, inR IntKind.i64 (List.getD l (0 + Int.toNat i * 1) 0 - bo) = true, decide (0 ≤ i) = true, decide (i < (↑n : Int)) = true, decide (0 + Int.toNat i * 1 < List.length l) = true, decide (i < (↑(List.length (digs (Int.natAbs q))) : Int)) = false, decide (0 ≤ i) = true, decide (i < (↑n : Int)) = true, decide (0 + Int.toNat i * 1 < List.length (List.set l (0 + Int.toNat i * 1) (List.getD l (0 + Int.toNat i * 1) 0 - bo))) = true, decide (List.getD (List.set l (0 + Int.toNat i * 1) (List.getD l (0 + Int.toNat i * 1) 0 - bo)) (0 + Int.toNat i * 1) 0 < 0) = true, decide (0 ≤ i) = true, decide (i < (↑n : Int)) = true, decide (0 + Int.toNat i * 1 < List.length (List.set l (0 + Int.toNat i * 1) (List.getD l (0 + Int.toNat i * 1) 0 - bo))) = true, inR IntKind.i64 (List.getD (List.set l (0 + Int.toNat i * 1) (List.getD l (0 + Int.toNat i * 1) 0 - bo)) (0 + Int.toNat i * 1) 0 + 100000000) = true, decide (0 ≤ i) = true, decide (i < (↑n : Int)) = true, decide (0 + Int.toNat i * 1 < List.length (List.set l (0 + Int.toNat i * 1) (List.getD l (0 + Int.toNat i * 1) 0 - bo))) = true, inR IntKind.i64 (i + 1) = true]) := by kernel_rfl
theorem leL_3 (na nb : Bool) (a b q bo i : Int) (n : Nat) (l : List Int) : rndA (mkCfg Tryz.prog ctr4 bw) 60 (lpOf Tryz.prog 155 0) 5 [] [0, 1, 5, 7, 8, 9] [3, 4] (PL na nb a b q bo i n l) [true, false, false] [] = some (Ex.normal, ⟨sp 47 [(0, AV.own 4 0 n 1), (1, AV.wd q), (5, AV.lit (Value.int IntKind.i64 0)), (7, AV.own 4 0 n 1), (8, AV.lit (Value.int IntKind.i64 (↑n : Int))), (9, AV.lit (Value.int IntKind.i64 (i + 1)))], [Row.flat [AV.lit (Value.bool na), AV.wd a] true, Row.flat [AV.lit (Value.bool nb), AV.wd b] true, Row.flat [AV.lit (Value.bool false), AV.lit (Value.slice none 0 0)] true, Row.dead, Row.ints (List.set l (0 + Int.toNat i * 1) (List.getD l (0 + Int.toNat i * 1) 0 - bo)) true], [3, 4]⟩, [decide (i < (↑n : Int)) = true, decide (0 ≤ i) = true, decide (i < (↑n : Int)) = true, decide (0 + Int.toNat i * 1 < List.length l) = true, inR IntKind.i64 (List.getD l (0 + Int.toNat i * 1) 0 - bo) = true, decide (0 ≤ i) = true, decide (i < (↑n : Int)) = true, decide (0 + Int.toNat i * 1 < List.length l) = true, decide (i < (↑(List.length (digs (Int.natAbs q))) : Int)) = false, decide (0 ≤ i) = true, decide (i < (↑n : Int)) = true, decide (0 + Int.toNat i * 1 < List.length (List.set l (0 + Int.toNat i * 1) (List.getD l (0 + Int.toNat i * 1) 0 - bo))) = true, decide (List.getD (List.set l (0 + Int.toNat i * 1) (List.getD l (0 + Int.toNat i * 1) 0 - bo)) (0 + Int.toNat i * 1) 0 < 0) = false, inR IntKind.i64 (i + 1) = true]) := by kernel_rfl
theorem leL_4 (na nb : Bool) (a b q bo i : Int) (n : Nat) (l : List Int) : rndA (mkCfg Tryz.prog ctr4 bw) 60 (lpOf Tryz.prog 155 0) 5 [] [0, 1, 5, 7, 8, 9] [3, 4] (PL na nb a b q bo i n l) [false] [] = some (Ex.exit 0, ⟨sp 47 [(0, AV.own 4 0 n 1), (1, AV.wd q), (5, AV.lit (Value.int IntKind.i64 bo)), (7, AV.own 4 0 n 1), (8, AV.lit (Value.int IntKind.i64 (↑n : Int))), (9, AV.lit (Value.int IntKind.i64 i))], [Row.flat [AV.lit (Value.bool na), AV.wd a] true, Row.flat [AV.lit (Value.bool nb), AV.wd b] true, Row.flat [AV.lit (Value.bool false), AV.lit (Value.slice none 0 0)] true, Row.dead, Row.ints l true], [3, 4]⟩, [decide (i < (↑n : Int)) = false]) := by kernel_rfl
theorem plA_2 (na nb : Bool) (a b i c : Int) (n : Nat) (out : List Int) : funA (mkCfg Tryz.prog ctr4 bw) 60 107 [.agg [.lit (.bool na), .wd a], .agg [.lit (.bool nb), .wd b]] [true, false, true] [some (viaL Tryz.prog (lpOf Tryz.prog 107 0) [] [2,4,5,6,7,8,31,32,33] [3] (PZ na nb a b a b) (.exit 0, PR na nb a b a b i c n out))] = some (AV.agg [AV.lit (Value.bool na), AV.sq (List.take (n + 1) (List.take n out ++ List.take 1 [c]))], [(na == nb) = true, decide ((↑(List.length (digs (Int.natAbs a))) : Int) < (↑(List.length (digs (Int.natAbs b))) : Int)) = false, inR IntKind.i64 ((↑(List.length (digs (Int.natAbs a))) : Int) + 1) = true, true = true, decide (0 ≤ (↑(List.length (digs (Int.natAbs a))) : Int) + 1) = true, decide (8 * ((↑(List.length (digs (Int.natAbs a))) : Int) + 1) ≤ 281474976710656) = true, decide ((↑(List.length (digs (Int.natAbs a))) : Int) + 1 ≤ 9223372036854775807) = true, LoopOK Tryz.prog (lpOf Tryz.prog 107 0) (viaL Tryz.prog (lpOf Tryz.prog 107 0) [] [2, 4, 5, 6, 7, 8, 31, 32, 33] [3] ⟨sp 97 [(2, AV.ref 0 0), (4, AV.ref 2 0), (5, AV.wd a), (6, AV.wd b), (7, AV.own 3 0 0 1), (8, AV.lit (Value.int IntKind.i64 0)), (31, AV.wd a), (32, AV.lit (Value.int IntKind.i64 (↑(List.length (digs (Int.natAbs a))) : Int))), (33, AV.lit (Value.int IntKind.i64 0))], [Row.flat [AV.lit (Value.bool na), AV.wd a] true, Row.flat [AV.lit (Value.bool nb), AV.wd b] true, Row.flat [AV.lit (Value.bool false), AV.lit (Value.slice none 0 0)] true, Row.ints [] true], [3]⟩ (Ex.exit 0, ⟨sp 97 [(2, AV.ref 0 0), (4, AV.ref 2 0), (5, AV.wd a), (6, AV.wd b), (7, AV.own 4 0 n 1), (8, AV.lit (Value.int IntKind.i64 c)), (31, AV.wd a), (32, AV.lit (Value.int IntKind.i64 (↑(List.length (digs (Int.natAbs a))) : Int))), (33, AV.lit (Value.int IntKind.i64 i))], [Row.flat [AV.lit (Value.bool na), AV.wd a] true, Row.flat [AV.lit (Value.bool nb), AV.wd b] true, Row.flat [AV.lit (Value.bool false), AV.lit (Value.slice none 0 0)] true, Row.dead, Row.ints out true], [3]⟩)), (⟨sp 97 [(2, AV.ref 0 0), (4, AV.ref 2 0), (5, AV.wd a), (6, AV.wd b), (7, AV.own 3 0 0 1), (8, AV.lit (Value.int IntKind.i64 0)), (31, AV.wd a), (32, AV.lit (Value.int IntKind.i64 (↑(List.length (digs (Int.natAbs a))) : Int))), (33, AV.lit (Value.int IntKind.i64 0))], [Row.flat [AV.lit (Value.bool na), AV.wd a] true, Row.flat [AV.lit (Value.bool nb), AV.wd b] true, Row.flat [AV.lit (Value.bool false), AV.lit (Value.slice none 0 0)] true, Row.ints [] true], [3]⟩ : St) = ⟨sp 97 [(2, AV.ref 0 0), (4, AV.ref 2 0), (5, AV.wd a), (6, AV.wd b), (7, AV.own 3 0 0 1), (8, AV.lit (Value.int IntKind.i64 0)), (31, AV.wd a), (32, AV.lit (Value.int IntKind.i64 (↑(List.length (digs (Int.natAbs a))) : Int))), (33, AV.lit (Value.int IntKind.i64 0))], [Row.flat [AV.lit (Value.bool na), AV.wd a] true, Row.flat [AV.lit (Value.bool nb), AV.wd b] true, Row.flat [AV.lit (Value.bool false), AV.lit (Value.slice none 0 0)] true, Row.ints [] true], [3]⟩, Loops 4 Tryz.prog (lpOf Tryz.prog 107 0) ⟨sp 97 [(2, AV.ref 0 0), (4, AV.ref 2 0), (5, AV.wd a), (6, AV.wd b), (7, AV.own 3 0 0 1), (8, AV.lit (Value.int IntKind.i64 0)), (31, AV.wd a), (32, AV.lit (Value.int IntKind.i64 (↑(List.length (digs (Int.natAbs a))) : Int))), (33, AV.lit (Value.int IntKind.i64 0))], [Row.flat [AV.lit (Value.bool na), AV.wd a] true, Row.flat [AV.lit (Value.bool nb), AV.wd b] true, Row.flat [AV.lit (Value.bool false), AV.lit (Value.slice none 0 0)] true, Row.ints [] true], [3]⟩ (Ex.exit 0, ⟨sp 97 [(2, AV.ref 0 0), (4, AV.ref 2 0), (5, AV.wd a), (6, AV.wd b), (7, AV.own 4 0 n 1), (8, AV.lit (Value.int IntKind.i64 c)), (31, AV.wd a), (32, AV.lit (Value.int IntKind.i64 (↑(List.length (digs (Int.natAbs a))) : Int))), (33, AV.lit (Value.int IntKind.i64 i))], [Row.flat [AV.lit (Value.bool na), AV.wd a] true, Row.flat [AV.lit (Value.bool nb), AV.wd b] true, Row.flat [AV.lit (Value.bool false), AV.lit (Value.slice none 0 0)] true, Row.dead, Row.ints out true], [3]⟩), decide (c > 0) = true, decide ((n + 1) * 8 ≤ 140737488355328) = true, decide (n + 1 ≤ 4611686018427387904) = true, decide (n ≤ List.length out) = true, decide (List.length (List.take 1 [c]) = 1) = true, n + 1 ≤ List.length (List.take n out ++ List.take 1 [c])]) := by kernel_rfl
theorem plA_3 (na nb : Bool) (a b i c : Int) (n : Nat) (out : List Int) : funA (mkCfg Tryz.prog ctr4 bw) 60 107 [.agg [.lit (.bool na), .wd a], .agg [.lit (.bool nb), .wd b]] [true, false, false] [some (viaL Tryz.prog (lpOf Tryz.prog 107 0) [] [2,4,5,6,7,8,31,32,33] [3] (PZ na nb a b a b) (.exit 0, PR na nb a b a b i c n out))] = some (AV.agg [AV.lit (Value.bool na), AV.sq (List.take n out)], [(na == nb) = true, decide ((↑(List.length (digs (Int.natAbs a))) : Int) < (↑(List.length (digs (Int.natAbs b))) : Int)) = false, inR IntKind.i64 ((↑(List.length (digs (Int.natAbs a))) : Int) + 1) = true, true = true, decide (0 ≤ (↑(List.length (digs (Int.natAbs a))) : Int) + 1) = true, decide (8 * ((↑(List.length (digs (Int.natAbs a))) : Int) + 1) ≤ 281474976710656) = true, decide ((↑(List.length (digs (Int.natAbs a))) : Int) + 1 ≤ 9223372036854775807) = true, LoopOK Tryz.prog (lpOf Tryz.prog 107 0) (viaL Tryz.prog (lpOf Tryz.prog 107 0) [] [2, 4, 5, 6, 7, 8, 31, 32, 33] [3] ⟨sp 97 [(2, AV.ref 0 0), (4, AV.ref 2 0), (5, AV.wd a), (6, AV.wd b), (7, AV.own 3 0 0 1), (8, AV.lit (Value.int IntKind.i64 0)), (31, AV.wd a), (32, AV.lit (Value.int IntKind.i64 (↑(List.length (digs (Int.natAbs a))) : Int))), (33, AV.lit (Value.int IntKind.i64 0))], [Row.flat [AV.lit (Value.bool na), AV.wd a] true, Row.flat [AV.lit (Value.bool nb), AV.wd b] true, Row.flat [AV.lit (Value.bool false), AV.lit (Value.slice none 0 0)] true, Row.ints [] true], [3]⟩ (Ex.exit 0, ⟨sp 97 [(2, AV.ref 0 0), (4, AV.ref 2 0), (5, AV.wd a), (6, AV.wd b), (7, AV.own 4 0 n 1), (8, AV.lit (Value.int IntKind.i64 c)), (31, AV.wd a), (32, AV.lit (Value.int IntKind.i64 (↑(List.length (digs (Int.natAbs a))) : Int))), (33, AV.lit (Value.int IntKind.i64 i))], [Row.flat [AV.lit (Value.bool na), AV.wd a] true, Row.flat [AV.lit (Value.bool nb), AV.wd b] true, Row.flat [AV.lit (Value.bool false), AV.lit (Value.slice none 0 0)] true, Row.dead, Row.ints out true], [3]⟩)), (⟨sp 97 [(2, AV.ref 0 0), (4, AV.ref 2 0), (5, AV.wd a), (6, AV.wd b), (7, AV.own 3 0 0 1), (8, AV.lit (Value.int IntKind.i64 0)), (31, AV.wd a), (32, AV.lit (Value.int IntKind.i64 (↑(List.length (digs (Int.natAbs a))) : Int))), (33, AV.lit (Value.int IntKind.i64 0))], [Row.flat [AV.lit (Value.bool na), AV.wd a] true, Row.flat [AV.lit (Value.bool nb), AV.wd b] true, Row.flat [AV.lit (Value.bool false), AV.lit (Value.slice none 0 0)] true, Row.ints [] true], [3]⟩ : St) = ⟨sp 97 [(2, AV.ref 0 0), (4, AV.ref 2 0), (5, AV.wd a), (6, AV.wd b), (7, AV.own 3 0 0 1), (8, AV.lit (Value.int IntKind.i64 0)), (31, AV.wd a), (32, AV.lit (Value.int IntKind.i64 (↑(List.length (digs (Int.natAbs a))) : Int))), (33, AV.lit (Value.int IntKind.i64 0))], [Row.flat [AV.lit (Value.bool na), AV.wd a] true, Row.flat [AV.lit (Value.bool nb), AV.wd b] true, Row.flat [AV.lit (Value.bool false), AV.lit (Value.slice none 0 0)] true, Row.ints [] true], [3]⟩, Loops 4 Tryz.prog (lpOf Tryz.prog 107 0) ⟨sp 97 [(2, AV.ref 0 0), (4, AV.ref 2 0), (5, AV.wd a), (6, AV.wd b), (7, AV.own 3 0 0 1), (8, AV.lit (Value.int IntKind.i64 0)), (31, AV.wd a), (32, AV.lit (Value.int IntKind.i64 (↑(List.length (digs (Int.natAbs a))) : Int))), (33, AV.lit (Value.int IntKind.i64 0))], [Row.flat [AV.lit (Value.bool na), AV.wd a] true, Row.flat [AV.lit (Value.bool nb), AV.wd b] true, Row.flat [AV.lit (Value.bool false), AV.lit (Value.slice none 0 0)] true, Row.ints [] true], [3]⟩ (Ex.exit 0, ⟨sp 97 [(2, AV.ref 0 0), (4, AV.ref 2 0), (5, AV.wd a), (6, AV.wd b), (7, AV.own 4 0 n 1), (8, AV.lit (Value.int IntKind.i64 c)), (31, AV.wd a), (32, AV.lit (Value.int IntKind.i64 (↑(List.length (digs (Int.natAbs a))) : Int))), (33, AV.lit (Value.int IntKind.i64 i))], [Row.flat [AV.lit (Value.bool na), AV.wd a] true, Row.flat [AV.lit (Value.bool nb), AV.wd b] true, Row.flat [AV.lit (Value.bool false), AV.lit (Value.slice none 0 0)] true, Row.dead, Row.ints out true], [3]⟩), decide (c > 0) = false, n ≤ List.length out]) := by kernel_rfl
theorem plB_0 (na nb : Bool) (a b i c : Int) (n : Nat) (out : List Int) : funA (mkCfg Tryz.prog ctr4 bw) 60 107 [.agg [.lit (.bool na), .wd a], .agg [.lit (.bool nb), .wd b]] [true, true, true] [some (viaL Tryz.prog (lpOf Tryz.prog 107 0) [] [2,4,5,6,7,8,31,32,33] [3] (PZ na nb a b b a) (.exit 0, PR na nb a b b a i c n out))] = some (AV.agg [AV.lit (Value.bool na), AV.sq (List.take (n + 1) (List.take n out ++ List.take 1 [c]))], [(na == nb) = true, decide ((↑(List.length (digs (Int.natAbs a))) : Int) < (↑(List.length (digs (Int.natAbs b))) : Int)) = true, inR IntKind.i64 ((↑(List.length (digs (Int.natAbs b))) : Int) + 1) = true, true = true, decide (0 ≤ (↑(List.length (digs (Int.natAbs b))) : Int) + 1) = true, decide (8 * ((↑(List.length (digs (Int.natAbs b))) : Int) + 1) ≤ 281474976710656) = true, decide ((↑(List.length (digs (Int.natAbs b))) : Int) + 1 ≤ 9223372036854775807) = true, LoopOK Tryz.prog (lpOf Tryz.prog 107 0) (viaL Tryz.prog (lpOf Tryz.prog 107 0) [] [2, 4, 5, 6, 7, 8, 31, 32, 33] [3] ⟨sp 97 [(2, AV.ref 0 0), (4, AV.ref 2 0), (5, AV.wd b), (6, AV.wd a), (7, AV.own 3 0 0 1), (8, AV.lit (Value.int IntKind.i64 0)), (31, AV.wd b), (32, AV.lit (Value.int IntKind.i64 (↑(List.length (digs (Int.natAbs b))) : Int))), (33, AV.lit (Value.int IntKind.i64 0))], [Row.flat [AV.lit (Value.bool na), AV.wd a] true, Row.flat [AV.lit (Value.bool nb), AV.wd b] true, Row.flat [AV.lit (Value.bool false), AV.lit (Value.slice none 0 0)] true, Row.ints [] true], [3]⟩ (Ex.exit 0, ⟨sp 97 [(2, AV.ref 0 0), (4, AV.ref 2 0), (5, AV.wd b), (6, AV.wd a), (7, AV.own 4 0 n 1), (8, AV.lit (Value.int IntKind.i64 c)), (31, AV.wd b), (32, AV.lit (Value.int IntKind.i64 (↑(List.length (digs (Int.natAbs b))) : Int))), (33, AV.lit (Value.int IntKind.i64 i))], [Row.flat [AV.lit (Value.bool na), AV.wd a] true, Row.flat [AV.lit (Value.bool nb), AV.wd b] true, Row.flat [AV.lit (Value.bool false), AV.lit (Value.slice none 0 0)] true, Row.dead, Row.ints out true], [3]⟩)), (⟨sp 97 [(2, AV.ref 0 0), (4, AV.ref 2 0), (5, AV.wd b), (6, AV.wd a), (7, AV.own 3 0 0 1), (8, AV.lit (Value.int IntKind.i64 0)), (31, AV.wd b), (32, AV.lit (Value.int IntKind.i64 (↑(List.length (digs (Int.natAbs b))) : Int))), (33, AV.lit (Value.int IntKind.i64 0))], [Row.flat [AV.lit (Value.bool na), AV.wd a] true, Row.flat [AV.lit (Value.bool nb), AV.wd b] true, Row.flat [AV.lit (Value.bool false), AV.lit (Value.slice none 0 0)] true, Row.ints [] true], [3]⟩ : St) = ⟨sp 97 [(2, AV.ref 0 0), (4, AV.ref 2 0), (5, AV.wd b), (6, AV.wd a), (7, AV.own 3 0 0 1), (8, AV.lit (Value.int IntKind.i64 0)), (31, AV.wd b), (32, AV.lit (Value.int IntKind.i64 (↑(List.length (digs (Int.natAbs b))) : Int))), (33, AV.lit (Value.int IntKind.i64 0))], [Row.flat [AV.lit (Value.bool na), AV.wd a] true, Row.flat [AV.lit (Value.bool nb), AV.wd b] true, Row.flat [AV.lit (Value.bool false), AV.lit (Value.slice none 0 0)] true, Row.ints [] true], [3]⟩, Loops 4 Tryz.prog (lpOf Tryz.prog 107 0) ⟨sp 97 [(2, AV.ref 0 0), (4, AV.ref 2 0), (5, AV.wd b), (6, AV.wd a), (7, AV.own 3 0 0 1), (8, AV.lit (Value.int IntKind.i64 0)), (31, AV.wd b), (32, AV.lit (Value.int IntKind.i64 (↑(List.length (digs (Int.natAbs b))) : Int))), (33, AV.lit (Value.int IntKind.i64 0))], [Row.flat [AV.lit (Value.bool na), AV.wd a] true, Row.flat [AV.lit (Value.bool nb), AV.wd b] true, Row.flat [AV.lit (Value.bool false), AV.lit (Value.slice none 0 0)] true, Row.ints [] true], [3]⟩ (Ex.exit 0, ⟨sp 97 [(2, AV.ref 0 0), (4, AV.ref 2 0), (5, AV.wd b), (6, AV.wd a), (7, AV.own 4 0 n 1), (8, AV.lit (Value.int IntKind.i64 c)), (31, AV.wd b), (32, AV.lit (Value.int IntKind.i64 (↑(List.length (digs (Int.natAbs b))) : Int))), (33, AV.lit (Value.int IntKind.i64 i))], [Row.flat [AV.lit (Value.bool na), AV.wd a] true, Row.flat [AV.lit (Value.bool nb), AV.wd b] true, Row.flat [AV.lit (Value.bool false), AV.lit (Value.slice none 0 0)] true, Row.dead, Row.ints out true], [3]⟩), decide (c > 0) = true, decide ((n + 1) * 8 ≤ 140737488355328) = true, decide (n + 1 ≤ 4611686018427387904) = true, decide (n ≤ List.length out) = true, decide (List.length (List.take 1 [c]) = 1) = true, n + 1 ≤ List.length (List.take n out ++ List.take 1 [c])]) := by kernel_rfl
theorem plB_1 (na nb : Bool) (a b i c : Int) (n : Nat) (out : List Int) : funA (mkCfg Tryz.prog ctr4 bw) 60 107 [.agg [.lit (.bool na), .wd a], .agg [.lit (.bool nb), .wd b]] [true, true, false] [some (viaL Tryz.prog (lpOf Tryz.prog 107 0) [] [2,4,5,6,7,8,31,32,33] [3] (PZ na nb a b b a) (.exit 0, PR na nb a b b a i c n out))] = some (AV.agg [AV.lit (Value.bool na), AV.sq (List.take n out)], [(na == nb) = true, decide ((↑(List.length (digs (Int.natAbs a))) : Int) < (↑(List.length (digs (Int.natAbs b))) : Int)) = true, inR IntKind.i64 ((↑(List.length (digs (Int.natAbs b))) : Int) + 1) = true, true = true, decide (0 ≤ (↑(List.length (digs (Int.natAbs b))) : Int) + 1) = true, decide (8 * ((↑(List.length (digs (Int.natAbs b))) : Int) + 1) ≤ 281474976710656) = true, decide ((↑(List.length (digs (Int.natAbs b))) : Int) + 1 ≤ 9223372036854775807) = true, LoopOK Tryz.prog (lpOf Tryz.prog 107 0) (viaL Tryz.prog (lpOf Tryz.prog 107 0) [] [2, 4, 5, 6, 7, 8, 31, 32, 33] [3] ⟨sp 97 [(2, AV.ref 0 0), (4, AV.ref 2 0), (5, AV.wd b), (6, AV.wd a), (7, AV.own 3 0 0 1), (8, AV.lit (Value.int IntKind.i64 0)), (31, AV.wd b), (32, AV.lit (Value.int IntKind.i64 (↑(List.length (digs (Int.natAbs b))) : Int))), (33, AV.lit (Value.int IntKind.i64 0))], [Row.flat [AV.lit (Value.bool na), AV.wd a] true, Row.flat [AV.lit (Value.bool nb), AV.wd b] true, Row.flat [AV.lit (Value.bool false), AV.lit (Value.slice none 0 0)] true, Row.ints [] true], [3]⟩ (Ex.exit 0, ⟨sp 97 [(2, AV.ref 0 0), (4, AV.ref 2 0), (5, AV.wd b), (6, AV.wd a), (7, AV.own 4 0 n 1), (8, AV.lit (Value.int IntKind.i64 c)), (31, AV.wd b), (32, AV.lit (Value.int IntKind.i64 (↑(List.length (digs (Int.natAbs b))) : Int))), (33, AV.lit (Value.int IntKind.i64 i))], [Row.flat [AV.lit (Value.bool na), AV.wd a] true, Row.flat [AV.lit (Value.bool nb), AV.wd b] true, Row.flat [AV.lit (Value.bool false), AV.lit (Value.slice none 0 0)] true, Row.dead, Row.ints out true], [3]⟩)), (⟨sp 97 [(2, AV.ref 0 0), (4, AV.ref 2 0), (5, AV.wd b), (6, AV.wd a), (7, AV.own 3 0 0 1), (8, AV.lit (Value.int IntKind.i64 0)), (31, AV.wd b), (32, AV.lit (Value.int IntKind.i64 (↑(List.length (digs (Int.natAbs b))) : Int))), (33, AV.lit (Value.int IntKind.i64 0))], [Row.flat [AV.lit (Value.bool na), AV.wd a] true, Row.flat [AV.lit (Value.bool nb), AV.wd b] true, Row.flat [AV.lit (Value.bool false), AV.lit (Value.slice none 0 0)] true, Row.ints [] true], [3]⟩ : St) = ⟨sp 97 [(2, AV.ref 0 0), (4, AV.ref 2 0), (5, AV.wd b), (6, AV.wd a), (7, AV.own 3 0 0 1), (8, AV.lit (Value.int IntKind.i64 0)), (31, AV.wd b), (32, AV.lit (Value.int IntKind.i64 (↑(List.length (digs (Int.natAbs b))) : Int))), (33, AV.lit (Value.int IntKind.i64 0))], [Row.flat [AV.lit (Value.bool na), AV.wd a] true, Row.flat [AV.lit (Value.bool nb), AV.wd b] true, Row.flat [AV.lit (Value.bool false), AV.lit (Value.slice none 0 0)] true, Row.ints [] true], [3]⟩, Loops 4 Tryz.prog (lpOf Tryz.prog 107 0) ⟨sp 97 [(2, AV.ref 0 0), (4, AV.ref 2 0), (5, AV.wd b), (6, AV.wd a), (7, AV.own 3 0 0 1), (8, AV.lit (Value.int IntKind.i64 0)), (31, AV.wd b), (32, AV.lit (Value.int IntKind.i64 (↑(List.length (digs (Int.natAbs b))) : Int))), (33, AV.lit (Value.int IntKind.i64 0))], [Row.flat [AV.lit (Value.bool na), AV.wd a] true, Row.flat [AV.lit (Value.bool nb), AV.wd b] true, Row.flat [AV.lit (Value.bool false), AV.lit (Value.slice none 0 0)] true, Row.ints [] true], [3]⟩ (Ex.exit 0, ⟨sp 97 [(2, AV.ref 0 0), (4, AV.ref 2 0), (5, AV.wd b), (6, AV.wd a), (7, AV.own 4 0 n 1), (8, AV.lit (Value.int IntKind.i64 c)), (31, AV.wd b), (32, AV.lit (Value.int IntKind.i64 (↑(List.length (digs (Int.natAbs b))) : Int))), (33, AV.lit (Value.int IntKind.i64 i))], [Row.flat [AV.lit (Value.bool na), AV.wd a] true, Row.flat [AV.lit (Value.bool nb), AV.wd b] true, Row.flat [AV.lit (Value.bool false), AV.lit (Value.slice none 0 0)] true, Row.dead, Row.ints out true], [3]⟩), decide (c > 0) = false, n ≤ List.length out]) := by kernel_rfl
theorem plO_1 (na nb : Bool) (a b : Int) : funA (mkCfg Tryz.prog ctr4 bw) 60 107 [.agg [.lit (.bool na), .wd a], .agg [.lit (.bool nb), .wd b]] [true, false, false] [some (viaL Tryz.prog (lpOf Tryz.prog 107 0) [] [2,4,5,6,7,8,31,32,33] [3] (PZ na nb a b a b) (.exit 0, PZ na nb a b a b))] = some (AV.agg [AV.lit (Value.bool na), AV.sq []], [(na == nb) = true, decide ((↑(List.length (digs (Int.natAbs a))) : Int) < (↑(List.length (digs (Int.natAbs b))) : Int)) = false, inR IntKind.i64 ((↑(List.length (digs (Int.natAbs a))) : Int) + 1) = true, true = true, decide (0 ≤ (↑(List.length (digs (Int.natAbs a))) : Int) + 1) = true, decide (8 * ((↑(List.length (digs (Int.natAbs a))) : Int) + 1) ≤ 281474976710656) = true, decide ((↑(List.length (digs (Int.natAbs a))) : Int) + 1 ≤ 9223372036854775807) = true, LoopOK Tryz.prog (lpOf Tryz.prog 107 0) (viaL Tryz.prog (lpOf Tryz.prog 107 0) [] [2, 4, 5, 6, 7, 8, 31, 32, 33] [3] ⟨sp 97 [(2, AV.ref 0 0), (4, AV.ref 2 0), (5, AV.wd a), (6, AV.wd b), (7, AV.own 3 0 0 1), (8, AV.lit (Value.int IntKind.i64 0)), (31, AV.wd a), (32, AV.lit (Value.int IntKind.i64 (↑(List.length (digs (Int.natAbs a))) : Int))), (33, AV.lit (Value.int IntKind.i64 0))], [Row.flat [AV.lit (Value.bool na), AV.wd a] true, Row.flat [AV.lit (Value.bool nb), AV.wd b] true, Row.flat [AV.lit (Value.bool false), AV.lit (Value.slice none 0 0)] true, Row.ints [] true], [3]⟩ (Ex.exit 0, ⟨sp 97 [(2, AV.ref 0 0), (4, AV.ref 2 0), (5, AV.wd a), (6, AV.wd b), (7, AV.own 3 0 0 1), (8, AV.lit (Value.int IntKind.i64 0)), (31, AV.wd a), (32, AV.lit (Value.int IntKind.i64 (↑(List.length (digs (Int.natAbs a))) : Int))), (33, AV.lit (Value.int IntKind.i64 0))], [Row.flat [AV.lit (Value.bool na), AV.wd a] true, Row.flat [AV.lit (Value.bool nb), AV.wd b] true, Row.flat [AV.lit (Value.bool false), AV.lit (Value.slice none 0 0)] true, Row.ints [] true], [3]⟩)), (⟨sp 97 [(2, AV.ref 0 0), (4, AV.ref 2 0), (5, AV.wd a), (6, AV.wd b), (7, AV.own 3 0 0 1), (8, AV.lit (Value.int IntKind.i64 0)), (31, AV.wd a), (32, AV.lit (Value.int IntKind.i64 (↑(List.length (digs (Int.natAbs a))) : Int))), (33, AV.lit (Value.int IntKind.i64 0))], [Row.flat [AV.lit (Value.bool na), AV.wd a] true, Row.flat [AV.lit (Value.bool nb), AV.wd b] true, Row.flat [AV.lit (Value.bool false), AV.lit (Value.slice none 0 0)] true, Row.ints [] true], [3]⟩ : St) = ⟨sp 97 [(2, AV.ref 0 0), (4, AV.ref 2 0), (5, AV.wd a), (6, AV.wd b), (7, AV.own 3 0 0 1), (8, AV.lit (Value.int IntKind.i64 0)), (31, AV.wd a), (32, AV.lit (Value.int IntKind.i64 (↑(List.length (digs (Int.natAbs a))) : Int))), (33, AV.lit (Value.int IntKind.i64 0))], [Row.flat [AV.lit (Value.bool na), AV.wd a] true, Row.flat [AV.lit (Value.bool nb), AV.wd b] true, Row.flat [AV.lit (Value.bool false), AV.lit (Value.slice none 0 0)] true, Row.ints [] true], [3]⟩, Loops 4 Tryz.prog (lpOf Tryz.prog 107 0) ⟨sp 97 [(2, AV.ref 0 0), (4, AV.ref 2 0), (5, AV.wd a), (6, AV.wd b), (7, AV.own 3 0 0 1), (8, AV.lit (Value.int IntKind.i64 0)), (31, AV.wd a), (32, AV.lit (Value.int IntKind.i64 (↑(List.length (digs (Int.natAbs a))) : Int))), (33, AV.lit (Value.int IntKind.i64 0))], [Row.flat [AV.lit (Value.bool na), AV.wd a] true, Row.flat [AV.lit (Value.bool nb), AV.wd b] true, Row.flat [AV.lit (Value.bool false), AV.lit (Value.slice none 0 0)] true, Row.ints [] true], [3]⟩ (Ex.exit 0, ⟨sp 97 [(2, AV.ref 0 0), (4, AV.ref 2 0), (5, AV.wd a), (6, AV.wd b), (7, AV.own 3 0 0 1), (8, AV.lit (Value.int IntKind.i64 0)), (31, AV.wd a), (32, AV.lit (Value.int IntKind.i64 (↑(List.length (digs (Int.natAbs a))) : Int))), (33, AV.lit (Value.int IntKind.i64 0))], [Row.flat [AV.lit (Value.bool na), AV.wd a] true, Row.flat [AV.lit (Value.bool nb), AV.wd b] true, Row.flat [AV.lit (Value.bool false), AV.lit (Value.slice none 0 0)] true, Row.ints [] true], [3]⟩), false = false, 0 ≤ 0]) := by kernel_rfl
theorem plC_1 (na nb : Bool) (a b i : Int) (l : List Int) : funA (mkCfg Tryz.prog ctr4 bw) 60 107 [.agg [.lit (.bool na), .wd a], .agg [.lit (.bool nb), .wd b]] [false, false, true] [some (viaL Tryz.prog (lpOf Tryz.prog 155 0) [] [0,1,5,7,8,9] [3,4] (PL na nb a b b 0 0 (digs a.natAbs).length (digs a.natAbs)) (.exit 0, PL na nb a b b 0 i (digs a.natAbs).length l))] = some (AV.agg [AV.lit (Value.bool na), AV.sq (trm (List.take (List.length (digs (Int.natAbs a))) l))], [(na == nb) = false, pDD a b, (cmpI (↑(Int.natAbs a) : Int) (↑(Int.natAbs b) : Int) == 0) = false, (cmpI (↑(Int.natAbs a) : Int) (↑(Int.natAbs b) : Int) == 1) = true, (!List.isEmpty (digs (Int.natAbs a))) = true, decide ((0 + List.length (digs (Int.natAbs a))) * 8 ≤ 140737488355328) = true, decide (0 + List.length (digs (Int.natAbs a)) ≤ 4611686018427387904) = true, true = true, decide (List.length (digs (Int.natAbs a)) = List.length (digs (Int.natAbs a))) = true, LoopOK Tryz.prog (lpOf Tryz.prog 155 0) (viaL Tryz.prog (lpOf Tryz.prog 155 0) [] [0, 1, 5, 7, 8, 9] [3, 4] ⟨sp 47 [(0, AV.own 4 0 (List.length (digs (Int.natAbs a))) 1), (1, AV.wd b), (5, AV.lit (Value.int IntKind.i64 0)), (7, AV.own 4 0 (List.length (digs (Int.natAbs a))) 1), (8, AV.lit (Value.int IntKind.i64 (↑(List.length (digs (Int.natAbs a))) : Int))), (9, AV.lit (Value.int IntKind.i64 0))], [Row.flat [AV.lit (Value.bool na), AV.wd a] true, Row.flat [AV.lit (Value.bool nb), AV.wd b] true, Row.flat [AV.lit (Value.bool false), AV.lit (Value.slice none 0 0)] true, Row.dead, Row.ints (digs (Int.natAbs a)) true], [3, 4]⟩ (Ex.exit 0, ⟨sp 47 [(0, AV.own 4 0 (List.length (digs (Int.natAbs a))) 1), (1, AV.wd b), (5, AV.lit (Value.int IntKind.i64 0)), (7, AV.own 4 0 (List.length (digs (Int.natAbs a))) 1), (8, AV.lit (Value.int IntKind.i64 (↑(List.length (digs (Int.natAbs a))) : Int))), (9, AV.lit (Value.int IntKind.i64 i))], [Row.flat [AV.lit (Value.bool na), AV.wd a] true, Row.flat [AV.lit (Value.bool nb), AV.wd b] true, Row.flat [AV.lit (Value.bool false), AV.lit (Value.slice none 0 0)] true, Row.dead, Row.ints l true], [3, 4]⟩)), (⟨sp 47 [(0, AV.own 4 0 (0 + List.length (digs (Int.natAbs a))) 1), (1, AV.wd b), (5, AV.lit (Value.int IntKind.i64 0)), (7, AV.own 4 0 (0 + List.length (digs (Int.natAbs a))) 1), (8, AV.lit (Value.int IntKind.i64 (↑(0 + List.length (digs (Int.natAbs a))) : Int))), (9, AV.lit (Value.int IntKind.i64 0))], [Row.flat [AV.lit (Value.bool na), AV.wd a] true, Row.flat [AV.lit (Value.bool nb), AV.wd b] true, Row.flat [AV.lit (Value.bool false), AV.lit (Value.slice none 0 0)] true, Row.dead, Row.ints (List.take 0 [] ++ digs (Int.natAbs a)) true], [3, 4]⟩ : St) = ⟨sp 47 [(0, AV.own 4 0 (List.length (digs (Int.natAbs a))) 1), (1, AV.wd b), (5, AV.lit (Value.int IntKind.i64 0)), (7, AV.own 4 0 (List.length (digs (Int.natAbs a))) 1), (8, AV.lit (Value.int IntKind.i64 (↑(List.length (digs (Int.natAbs a))) : Int))), (9, AV.lit (Value.int IntKind.i64 0))], [Row.flat [AV.lit (Value.bool na), AV.wd a] true, Row.flat [AV.lit (Value.bool nb), AV.wd b] true, Row.flat [AV.lit (Value.bool false), AV.lit (Value.slice none 0 0)] true, Row.dead, Row.ints (digs (Int.natAbs a)) true], [3, 4]⟩, Loops 5 Tryz.prog (lpOf Tryz.prog 155 0) ⟨sp 47 [(0, AV.own 4 0 (List.length (digs (Int.natAbs a))) 1), (1, AV.wd b), (5, AV.lit (Value.int IntKind.i64 0)), (7, AV.own 4 0 (List.length (digs (Int.natAbs a))) 1), (8, AV.lit (Value.int IntKind.i64 (↑(List.length (digs (Int.natAbs a))) : Int))), (9, AV.lit (Value.int IntKind.i64 0))], [Row.flat [AV.lit (Value.bool na), AV.wd a] true, Row.flat [AV.lit (Value.bool nb), AV.wd b] true, Row.flat [AV.lit (Value.bool false), AV.lit (Value.slice none 0 0)] true, Row.dead, Row.ints (digs (Int.natAbs a)) true], [3, 4]⟩ (Ex.exit 0, ⟨sp 47 [(0, AV.own 4 0 (List.length (digs (Int.natAbs a))) 1), (1, AV.wd b), (5, AV.lit (Value.int IntKind.i64 0)), (7, AV.own 4 0 (List.length (digs (Int.natAbs a))) 1), (8, AV.lit (Value.int IntKind.i64 (↑(List.length (digs (Int.natAbs a))) : Int))), (9, AV.lit (Value.int IntKind.i64 i))], [Row.flat [AV.lit (Value.bool na), AV.wd a] true, Row.flat [AV.lit (Value.bool nb), AV.wd b] true, Row.flat [AV.lit (Value.bool false), AV.lit (Value.slice none 0 0)] true, Row.dead, Row.ints l true], [3, 4]⟩), List.length (digs (Int.natAbs a)) ≤ List.length l, short64 (List.take (List.length (digs (Int.natAbs a))) l)]) := by kernel_rfl
theorem plD_2 (na nb : Bool) (a b i : Int) (l : List Int) : funA (mkCfg Tryz.prog ctr4 bw) 60 107 [.agg [.lit (.bool na), .wd a], .agg [.lit (.bool nb), .wd b]] [false, false, false] [some (viaL Tryz.prog (lpOf Tryz.prog 155 0) [] [0,1,5,7,8,9] [3,4] (PL na nb a b a 0 0 (digs b.natAbs).length (digs b.natAbs)) (.exit 0, PL na nb a b a 0 i (digs b.natAbs).length l))] = some (AV.agg [AV.lit (Value.bool nb), AV.sq (trm (List.take (List.length (digs (Int.natAbs b))) l))], [(na == nb) = false, pDD a b, (cmpI (↑(Int.natAbs a) : Int) (↑(Int.natAbs b) : Int) == 0) = false, (cmpI (↑(Int.natAbs a) : Int) (↑(Int.natAbs b) : Int) == 1) = false, (!List.isEmpty (digs (Int.natAbs b))) = true, decide ((0 + List.length (digs (Int.natAbs b))) * 8 ≤ 140737488355328) = true, decide (0 + List.length (digs (Int.natAbs b)) ≤ 4611686018427387904) = true, true = true, decide (List.length (digs (Int.natAbs b)) = List.length (digs (Int.natAbs b))) = true, LoopOK Tryz.prog (lpOf Tryz.prog 155 0) (viaL Tryz.prog (lpOf Tryz.prog 155 0) [] [0, 1, 5, 7, 8, 9] [3, 4] ⟨sp 47 [(0, AV.own 4 0 (List.length (digs (Int.natAbs b))) 1), (1, AV.wd a), (5, AV.lit (Value.int IntKind.i64 0)), (7, AV.own 4 0 (List.length (digs (Int.natAbs b))) 1), (8, AV.lit (Value.int IntKind.i64 (↑(List.length (digs (Int.natAbs b))) : Int))), (9, AV.lit (Value.int IntKind.i64 0))], [Row.flat [AV.lit (Value.bool na), AV.wd a] true, Row.flat [AV.lit (Value.bool nb), AV.wd b] true, Row.flat [AV.lit (Value.bool false), AV.lit (Value.slice none 0 0)] true, Row.dead, Row.ints (digs (Int.natAbs b)) true], [3, 4]⟩ (Ex.exit 0, ⟨sp 47 [(0, AV.own 4 0 (List.length (digs (Int.natAbs b))) 1), (1, AV.wd a), (5, AV.lit (Value.int IntKind.i64 0)), (7, AV.own 4 0 (List.length (digs (Int.natAbs b))) 1), (8, AV.lit (Value.int IntKind.i64 (↑(List.length (digs (Int.natAbs b))) : Int))), (9, AV.lit (Value.int IntKind.i64 i))], [Row.flat [AV.lit (Value.bool na), AV.wd a] true, Row.flat [AV.lit (Value.bool nb), AV.wd b] true, Row.flat [AV.lit (Value.bool false), AV.lit (Value.slice none 0 0)] true, Row.dead, Row.ints l true], [3, 4]⟩)), (⟨sp 47 [(0, AV.own 4 0 (0 + List.length (digs (Int.natAbs b))) 1), (1, AV.wd a), (5, AV.lit (Value.int IntKind.i64 0)), (7, AV.own 4 0 (0 + List.length (digs (Int.natAbs b))) 1), (8, AV.lit (Value.int IntKind.i64 (↑(0 + List.length (digs (Int.natAbs b))) : Int))), (9, AV.lit (Value.int IntKind.i64 0))], [Row.flat [AV.lit (Value.bool na), AV.wd a] true, Row.flat [AV.lit (Value.bool nb), AV.wd b] true, Row.flat [AV.lit (Value.bool false), AV.lit (Value.slice none 0 0)] true, Row.dead, Row.ints (List.take 0 [] ++ digs (Int.natAbs b)) true], [3, 4]⟩ : St) = ⟨sp 47 [(0, AV.own 4 0 (List.length (digs (Int.natAbs b))) 1), (1, AV.wd a), (5, AV.lit (Value.int IntKind.i64 0)), (7, AV.own 4 0 (List.length (digs (Int.natAbs b))) 1), (8, AV.lit (Value.int IntKind.i64 (↑(List.length (digs (Int.natAbs b))) : Int))), (9, AV.lit (Value.int IntKind.i64 0))], [Row.flat [AV.lit (Value.bool na), AV.wd a] true, Row.flat [AV.lit (Value.bool nb), AV.wd b] true, Row.flat [AV.lit (Value.bool false), AV.lit (Value.slice none 0 0)] true, Row.dead, Row.ints (digs (Int.natAbs b)) true], [3, 4]⟩, Loops 5 Tryz.prog (lpOf Tryz.prog 155 0) ⟨sp 47 [(0, AV.own 4 0 (List.length (digs (Int.natAbs b))) 1), (1, AV.wd a), (5, AV.lit (Value.int IntKind.i64 0)), (7, AV.own 4 0 (List.length (digs (Int.natAbs b))) 1), (8, AV.lit (Value.int IntKind.i64 (↑(List.length (digs (Int.natAbs b))) : Int))), (9, AV.lit (Value.int IntKind.i64 0))], [Row.flat [AV.lit (Value.bool na), AV.wd a] true, Row.flat [AV.lit (Value.bool nb), AV.wd b] true, Row.flat [AV.lit (Value.bool false), AV.lit (Value.slice none 0 0)] true, Row.dead, Row.ints (digs (Int.natAbs b)) true], [3, 4]⟩ (Ex.exit 0, ⟨sp 47 [(0, AV.own 4 0 (List.length (digs (Int.natAbs b))) 1), (1, AV.wd a), (5, AV.lit (Value.int IntKind.i64 0)), (7, AV.own 4 0 (List.length (digs (Int.natAbs b))) 1), (8, AV.lit (Value.int IntKind.i64 (↑(List.length (digs (Int.natAbs b))) : Int))), (9, AV.lit (Value.int IntKind.i64 i))], [Row.flat [AV.lit (Value.bool na), AV.wd a] true, Row.flat [AV.lit (Value.bool nb), AV.wd b] true, Row.flat [AV.lit (Value.bool false), AV.lit (Value.slice none 0 0)] true, Row.dead, Row.ints l true], [3, 4]⟩), List.length (digs (Int.natAbs b)) ≤ List.length l, short64 (List.take (List.length (digs (Int.natAbs b))) l)]) := by kernel_rfl
theorem plN_0 (na nb : Bool) (a b : Int) : funA (mkCfg Tryz.prog ctr4 bw) 60 107 [.agg [.lit (.bool na), .wd a], .agg [.lit (.bool nb), .wd b]] [false, true] [] = some (AV.agg [AV.lit (Value.bool false), AV.lit (Value.slice none 0 0)], [(na == nb) = false, pDD a b, (cmpI (↑(Int.natAbs a) : Int) (↑(Int.natAbs b) : Int) == 0) = true]) := by kernel_rfl
theorem vl_drop (l : List Int) (i : Nat) : vl (l.drop i) = l.getD i 0 + 100000000 * vl (l.drop (i + 1)) := by
  by_cases h : i < l.length
  · rw [List.drop_eq_getElem_cons h]
    simp [vl, List.getD, h]
  · rw [List.drop_eq_nil_of_le (by omega), List.drop_eq_nil_of_le (by omega)]
    simp [vl, List.getD, h]
theorem dig_getD {l : List Int} (h : Digs l) (i : Nat) : 0 ≤ l.getD i 0 ∧ l.getD i 0 < 100000000 := by
  by_cases hi : i < l.length
  · have : l.getD i 0 = l[i] := by simp [List.getD, hi]
    rw [this]; exact h _ (List.getElem_mem hi)
  · have : l.getD i 0 = 0 := by simp [List.getD, hi]
    rw [this]; omega
theorem Digs_snoc {l : List Int} (h : Digs l) {d : Int} (h0 : 0 ≤ d) (h1 : d < 100000000) : Digs (l ++ [d]) := by
  intro x hx
  rcases List.mem_append.1 hx with hx | hx
  · exact h x hx
  · simp at hx; subst hx; exact ⟨h0, h1⟩
theorem trm_len_eq : ∀ {l : List Int}, l.length ≤ (trm l).length → trm l = l
  | [], _ => rfl
  | d :: l, h => by
    simp only [trm] at h ⊢
    split
    · rename_i hc
      rw [if_pos hc] at h
      simp at h
    · rename_i hc
      rw [if_neg hc] at h
      simp only [List.length_cons] at h
      rw [trm_len_eq (l := l) (by omega)]
theorem tdm {t : Int} (h : 0 ≤ t) : Int.tdiv t 100000000 = t / 100000000 ∧ Int.tmod t 100000000 = t % 100000000 :=
  ⟨Int.tdiv_eq_ediv_of_nonneg h, Int.tmod_eq_emod_of_nonneg h⟩

theorem plusR (na nb : Bool) (a b p q : Int) (hp : fits p) (hq : fits q) : ∀ (k : Nat) (out : List Int) (c : Int), (digs p.natAbs).length = out.length + k → Digs out → (c = 0 ∨ c = 1) →
    ∃ (i' c' : Int) (out' : List Int), (c' = 0 ∨ c' = 1) ∧ Digs out' ∧ out'.length = (digs p.natAbs).length ∧
      vl out' + 100000000 ^ out'.length * c' = vl out + 100000000 ^ out.length * (c + (vl ((digs p.natAbs).drop out.length) + vl ((digs q.natAbs).drop out.length))) - 100000000 ^ (digs p.natAbs).length * vl ((digs q.natAbs).drop (digs p.natAbs).length) ∧
      Loops 4 Tryz.prog (lpOf Tryz.prog 107 0) (PR na nb a b p q out.length c out.length out) (.exit 0, PR na nb a b p q i' c' out'.length out')
  | 0, out, c, hk, hd, hc => by
    unfold fits dl at hp hq
    refine ⟨_, c, out, hc, hd, by omega, ?_, Loops.fin (LS.of ok4 (plE_2 na nb a b p q out.length c out.length out) (by (repeat' (first | exact AllC.nil | refine AllC.cons ?_ ?_)); all_goals (first | exact viaL_ok | ((with_reducible refine inR64.2 ?_); omega) | (with_reducible refine pFl ?_ ?_ <;> omega) | ((with_reducible refine decide_eq_true ?_); omega) | ((with_reducible refine decide_eq_false ?_); omega) | omega | (simp [hk] <;> omega) | assumption | rfl))) (by simp [Ex.toExit])⟩
    have e : (digs p.natAbs).length = out.length := by omega
    rw [e, List.drop_eq_nil_of_le (show (digs p.natAbs).length ≤ out.length by omega)]
    simp only [vl, Int.zero_add, Int.mul_add]
    omega
  | k + 1, out, c, hk, hd, hc => by
    have hp' := hp
    have hq' := hq
    unfold fits dl at hp' hq'
    have hnat : Int.toNat (out.length : Int) = out.length := by omega
    have hx := dig_getD (Digs_digs p.natAbs) out.length
    have hy := dig_getD (Digs_digs q.natAbs) out.length
    have hlt : out.length < (digs p.natAbs).length := by omega
    have e0 : out.length + 1 = (out ++ [((digs p.natAbs).getD out.length 0 + c + (digs q.natAbs).getD out.length 0) % 100000000]).length := by simp
    have e2 : (out.length : Int) + 1 = ((out ++ [((digs p.natAbs).getD out.length 0 + c + (digs q.natAbs).getD out.length 0) % 100000000]).length : Nat) := by simp
    have hd2 : Digs (out ++ [((digs p.natAbs).getD out.length 0 + c + (digs q.natAbs).getD out.length 0) % 100000000]) := Digs_snoc hd (by omega) (by omega)
    have hstep : LS 4 Tryz.prog (lpOf Tryz.prog 107 0) (PR na nb a b p q out.length c out.length out)
        (.normal, PR na nb a b p q ((out.length : Int) + 1) (((digs p.natAbs).getD out.length 0 + c + (digs q.natAbs).getD out.length 0) / 100000000) (out.length + 1) (out ++ [((digs p.natAbs).getD out.length 0 + c + (digs q.natAbs).getD out.length 0) % 100000000])) := by
      by_cases hq2 : out.length < (digs q.natAbs).length
      · obtain ⟨t1, t2⟩ := tdm (t := (digs p.natAbs).getD out.length 0 + c + (digs q.natAbs).getD out.length 0) (by omega)
        have h := LS.of ok4 (plR_0 na nb a b p q out.length c out.length out) (by
          rw [hnat, t1]
          exact (by (repeat' (first | exact AllC.nil | refine AllC.cons ?_ ?_)); all_goals (first | exact viaL_ok | ((with_reducible refine inR64.2 ?_); omega) | (with_reducible refine pFl ?_ ?_ <;> omega) | ((with_reducible refine decide_eq_true ?_); omega) | ((with_reducible refine decide_eq_false ?_); omega) | omega | (simp [hlt, hq2] <;> omega) | assumption | rfl)))
        rw [hnat, t1, t2, take_snoc] at h
        exact h
      · have hz : (digs q.natAbs).getD out.length 0 = 0 := by
          have : ¬ out.length < (digs q.natAbs).length := hq2
          simp [List.getD, this]
        rw [hz, Int.add_zero]
        obtain ⟨t1, t2⟩ := tdm (t := (digs p.natAbs).getD out.length 0 + c) (by omega)
        have h := LS.of ok4 (plR_1 na nb a b p q out.length c out.length out) (by
          rw [hnat, t1]
          exact (by (repeat' (first | exact AllC.nil | refine AllC.cons ?_ ?_)); all_goals (first | exact viaL_ok | ((with_reducible refine inR64.2 ?_); omega) | (with_reducible refine pFl ?_ ?_ <;> omega) | ((with_reducible refine decide_eq_true ?_); omega) | ((with_reducible refine decide_eq_false ?_); omega) | omega | (simp [hlt, hq2] <;> omega) | assumption | rfl)))
        rw [hnat, t1, t2, take_snoc] at h
        exact h
    rw [e0, e2] at hstep
    obtain ⟨i', c', out', k1, k2, k3, k4, k5⟩ := plusR na nb a b p q hp hq k (out ++ [((digs p.natAbs).getD out.length 0 + c + (digs q.natAbs).getD out.length 0) % 100000000]) (((digs p.natAbs).getD out.length 0 + c + (digs q.natAbs).getD out.length 0) / 100000000)
      (by simp; omega) hd2 (by omega)
    refine ⟨i', c', out', k1, k2, k3, ?_, Loops.go hstep k5⟩
    rw [k4]
    have := vl_step out c ((digs p.natAbs).getD out.length 0 + (digs q.natAbs).getD out.length 0) (((digs p.natAbs).getD out.length 0 + c + (digs q.natAbs).getD out.length 0) % 100000000)
      (((digs p.natAbs).getD out.length 0 + c + (digs q.natAbs).getD out.length 0) / 100000000) (vl ((digs p.natAbs).drop (out.length + 1)) + vl ((digs q.natAbs).drop (out.length + 1))) (by omega)
    have e4 : c + (vl ((digs p.natAbs).drop out.length) + vl ((digs q.natAbs).drop out.length)) = c + ((digs p.natAbs).getD out.length 0 + (digs q.natAbs).getD out.length 0 + 100000000 * (vl ((digs p.natAbs).drop (out.length + 1)) + vl ((digs q.natAbs).drop (out.length + 1)))) := by
      rw [vl_drop (digs p.natAbs) out.length, vl_drop (digs q.natAbs) out.length]; omega
    rw [e4, ← this]
    simp only [List.length_append, List.length_singleton]

theorem plus0 (na nb : Bool) (a b p q : Int) (hp : fits p) (hq : fits q) (hl : (digs q.natAbs).length ≤ (digs p.natAbs).length) (h0 : 0 < (digs p.natAbs).length) :
    ∃ (i' c' : Int) (out' : List Int), (c' = 0 ∨ c' = 1) ∧ Digs out' ∧ out'.length = (digs p.natAbs).length ∧
      vl out' + 100000000 ^ out'.length * c' = (p.natAbs : Int) + (q.natAbs : Int) ∧
      Loops 4 Tryz.prog (lpOf Tryz.prog 107 0) (PZ na nb a b p q) (.exit 0, PR na nb a b p q i' c' out'.length out') := by
  have hx := dig_getD (Digs_digs p.natAbs) 0
  have hy := dig_getD (Digs_digs q.natAbs) 0
  have hd2 : Digs [((digs p.natAbs).getD 0 0 + 0 + (digs q.natAbs).getD 0 0) % 100000000] := Digs_snoc (l := []) (fun d hd => by cases hd) (by omega) (by omega)
  have hstep : LS 4 Tryz.prog (lpOf Tryz.prog 107 0) (PZ na nb a b p q)
      (.normal, PR na nb a b p q 1 (((digs p.natAbs).getD 0 0 + 0 + (digs q.natAbs).getD 0 0) / 100000000) 1 [((digs p.natAbs).getD 0 0 + 0 + (digs q.natAbs).getD 0 0) % 100000000]) := by
    by_cases hq2 : 0 < (digs q.natAbs).length
    · obtain ⟨t1, t2⟩ := tdm (t := (digs p.natAbs).getD 0 0 + 0 + (digs q.natAbs).getD 0 0) (by omega)
      have h := LS.of ok4 (plZ_0 na nb a b p q) (by
        rw [t1]
        exact (by (repeat' (first | exact AllC.nil | refine AllC.cons ?_ ?_)); all_goals (first | exact viaL_ok | ((with_reducible refine inR64.2 ?_); omega) | (with_reducible refine pFl ?_ ?_ <;> omega) | ((with_reducible refine decide_eq_true ?_); omega) | ((with_reducible refine decide_eq_false ?_); omega) | omega | (simp [h0, hq2] <;> omega) | assumption | rfl)))
      rw [t1, t2] at h
      exact h
    · have hz : (digs q.natAbs).getD 0 0 = 0 := by simp [List.getD, hq2]
      rw [hz, Int.add_zero]
      obtain ⟨t1, t2⟩ := tdm (t := (digs p.natAbs).getD 0 0 + 0) (by omega)
      have h := LS.of ok4 (plZ_1 na nb a b p q) (by
        rw [t1]
        exact (by (repeat' (first | exact AllC.nil | refine AllC.cons ?_ ?_)); all_goals (first | exact viaL_ok | ((with_reducible refine inR64.2 ?_); omega) | (with_reducible refine pFl ?_ ?_ <;> omega) | ((with_reducible refine decide_eq_true ?_); omega) | ((with_reducible refine decide_eq_false ?_); omega) | omega | (simp [h0, hq2] <;> omega) | assumption | rfl)))
      rw [t1, t2] at h
      exact h
  obtain ⟨i', c', out', k1, k2, k3, k4, k5⟩ := plusR na nb a b p q hp hq ((digs p.natAbs).length - 1) [((digs p.natAbs).getD 0 0 + 0 + (digs q.natAbs).getD 0 0) % 100000000] (((digs p.natAbs).getD 0 0 + 0 + (digs q.natAbs).getD 0 0) / 100000000) (by simp; omega) hd2 (by omega)
  refine ⟨i', c', out', k1, k2, k3, ?_, Loops.go hstep k5⟩
  rw [k4, List.drop_eq_nil_of_le hl]
  have e1 := vl_drop (digs p.natAbs) 0
  have e2 := vl_drop (digs q.natAbs) 0
  rw [List.drop_zero, vl_digs, Nat.zero_add] at e1 e2
  simp only [vl, List.length_singleton, Int.pow_succ, Int.pow_zero]
  omega

theorem lessL (na nb : Bool) (a b q : Int) (n : Nat) (hn : n ≤ 1048576) (hq : (digs q.natAbs).length ≤ n) : ∀ (suf pre : List Int) (bo : Int), (bo = 0 ∨ bo = 1) → Digs pre → Digs suf → n = pre.length + suf.length →
    ∃ (pre' : List Int) (bo' : Int), Digs pre' ∧ pre'.length = n ∧ (bo' = 0 ∨ bo' = 1) ∧ vl pre' - 100000000 ^ n * bo' = vl pre + 100000000 ^ pre.length * (vl suf - bo - vl ((digs q.natAbs).drop pre.length)) ∧
      Loops 5 Tryz.prog (lpOf Tryz.prog 155 0) (PL na nb a b q bo pre.length n (pre ++ suf)) (.exit 0, PL na nb a b q bo' n n pre')
  | [], pre, bo, hb, hp, hs, hk => by
    simp only [List.length_nil, Nat.add_zero] at hk
    subst hk
    refine ⟨pre, bo, hp, rfl, hb, ?_, ?_⟩
    · rw [List.drop_eq_nil_of_le hq]
      simp only [vl, Int.sub_zero, Int.zero_sub, Int.mul_neg]
      omega
    · rw [List.append_nil]
      exact Loops.fin (LS.of ok4 (leL_4 na nb a b q bo pre.length pre.length pre) (by (repeat' (first | exact AllC.nil | refine AllC.cons ?_ ?_)); all_goals (first | exact viaL_ok | ((with_reducible refine inR64.2 ?_); omega) | (with_reducible refine pFl ?_ ?_ <;> omega) | ((with_reducible refine decide_eq_true ?_); omega) | ((with_reducible refine decide_eq_false ?_); omega) | omega | (simp [] <;> omega) | assumption | rfl))) (by simp [Ex.toExit])
  | s :: suf, pre, bo, hb, hp, hs, hk => by
    have hs0 := hs s (by simp)
    have hsf : Digs suf := fun d hd => hs d (by simp [hd])
    have hkk : 0 + Int.toNat (pre.length : Int) * 1 = pre.length := by omega
    have hnat : Int.toNat (pre.length : Int) = pre.length := by omega
    have hy := dig_getD (Digs_digs q.natAbs) pre.length
    simp only [List.length_cons] at hk
    have main : ∀ (dg bo1 : Int), (bo1 = 0 ∨ bo1 = 1) → 0 ≤ dg → dg < 100000000 → dg - 100000000 * bo1 = s - bo - (digs q.natAbs).getD pre.length 0 →
        LS 5 Tryz.prog (lpOf Tryz.prog 155 0) (PL na nb a b q bo pre.length n (pre ++ s :: suf)) (.normal, PL na nb a b q bo1 ((pre.length : Int) + 1) n (pre ++ dg :: suf)) →
        ∃ (pre' : List Int) (bo' : Int), Digs pre' ∧ pre'.length = n ∧ (bo' = 0 ∨ bo' = 1) ∧ vl pre' - 100000000 ^ n * bo' = vl pre + 100000000 ^ pre.length * (vl (s :: suf) - bo - vl ((digs q.natAbs).drop pre.length)) ∧
          Loops 5 Tryz.prog (lpOf Tryz.prog 155 0) (PL na nb a b q bo pre.length n (pre ++ s :: suf)) (.exit 0, PL na nb a b q bo' n n pre') := by
      intro dg bo1 h1 h2 h3 h4 h
      have e : pre ++ dg :: suf = (pre ++ [dg]) ++ suf := by simp
      have e2 : (pre.length : Int) + 1 = ((pre ++ [dg]).length : Nat) := by simp
      rw [e, e2] at h
      obtain ⟨pre', bo', k1, k2, k3, k4, k5⟩ := lessL na nb a b q n hn hq suf (pre ++ [dg]) bo1 h1 (Digs_snoc hp h2 h3) hsf (by simp; omega)
      refine ⟨pre', bo', k1, k2, k3, ?_, Loops.go h k5⟩
      rw [k4, vl_snoc, List.length_append, List.length_singleton, Int.pow_succ, vl_drop (digs q.natAbs) pre.length]
      simp only [vl]
      have e3 : s + 100000000 * vl suf - bo - ((digs q.natAbs).getD pre.length 0 + 100000000 * vl ((digs q.natAbs).drop (pre.length + 1))) =
          dg + 100000000 * (vl suf - bo1 - vl ((digs q.natAbs).drop (pre.length + 1))) := by omega
      rw [e3, alg1, Int.add_assoc]
    by_cases hq2 : pre.length < (digs q.natAbs).length
    · by_cases hneg : s - bo - (digs q.natAbs).getD pre.length 0 < 0
      · have h := LS.of ok4 (leL_0 na nb a b q bo pre.length n (pre ++ s :: suf)) (by
          simp only [hnat, Nat.zero_add, Nat.mul_one, getD_mid, set_mid]
          exact (by (repeat' (first | exact AllC.nil | refine AllC.cons ?_ ?_)); all_goals (first | exact viaL_ok | ((with_reducible refine inR64.2 ?_); omega) | (with_reducible refine pFl ?_ ?_ <;> omega) | ((with_reducible refine decide_eq_true ?_); omega) | ((with_reducible refine decide_eq_false ?_); omega) | omega | (simp [hneg, hk, hq2] <;> omega) | assumption | rfl)))
        simp only [hnat, Nat.zero_add, Nat.mul_one, getD_mid, set_mid] at h
        exact main _ 1 (.inr rfl) (by omega) (by omega) (by omega) h
      · have h := LS.of ok4 (leL_1 na nb a b q bo pre.length n (pre ++ s :: suf)) (by
          simp only [hnat, Nat.zero_add, Nat.mul_one, getD_mid, set_mid]
          exact (by (repeat' (first | exact AllC.nil | refine AllC.cons ?_ ?_)); all_goals (first | exact viaL_ok | ((with_reducible refine inR64.2 ?_); omega) | (with_reducible refine pFl ?_ ?_ <;> omega) | ((with_reducible refine decide_eq_true ?_); omega) | ((with_reducible refine decide_eq_false ?_); omega) | omega | (simp [hneg, hk, hq2] <;> omega) | assumption | rfl)))
        simp only [hnat, Nat.zero_add, Nat.mul_one, getD_mid, set_mid] at h
        exact main _ 0 (.inl rfl) (by omega) (by omega) (by omega) h
    · have hz : (digs q.natAbs).getD pre.length 0 = 0 := by simp [List.getD, hq2]
      by_cases hneg : s - bo < 0
      · have h := LS.of ok4 (leL_2 na nb a b q bo pre.length n (pre ++ s :: suf)) (by
          simp only [hnat, Nat.zero_add, Nat.mul_one, getD_mid, set_mid]
          exact (by (repeat' (first | exact AllC.nil | refine AllC.cons ?_ ?_)); all_goals (first | exact viaL_ok | ((with_reducible refine inR64.2 ?_); omega) | (with_reducible refine pFl ?_ ?_ <;> omega) | ((with_reducible refine decide_eq_true ?_); omega) | ((with_reducible refine decide_eq_false ?_); omega) | omega | (simp [hneg, hk, hq2] <;> omega) | assumption | rfl)))
        simp only [hnat, Nat.zero_add, Nat.mul_one, getD_mid, set_mid] at h
        exact main _ 1 (.inr rfl) (by omega) (by omega) (by omega) h
      · have h := LS.of ok4 (leL_3 na nb a b q bo pre.length n (pre ++ s :: suf)) (by
          simp only [hnat, Nat.zero_add, Nat.mul_one, getD_mid, set_mid]
          exact (by (repeat' (first | exact AllC.nil | refine AllC.cons ?_ ?_)); all_goals (first | exact viaL_ok | ((with_reducible refine inR64.2 ?_); omega) | (with_reducible refine pFl ?_ ?_ <;> omega) | ((with_reducible refine decide_eq_true ?_); omega) | ((with_reducible refine decide_eq_false ?_); omega) | omega | (simp [hneg, hk, hq2] <;> omega) | assumption | rfl)))
        simp only [hnat, Nat.zero_add, Nat.mul_one, getD_mid, set_mid] at h
        exact main _ 0 (.inl rfl) (by omega) (by omega) (by omega) h

theorem canon_of_ge {out : List Int} {m n : Nat} (hd : Digs out) (hv : vl out = (n : Int)) (hl : out.length = (digs m).length) (hmn : m ≤ n) : out = digs n := by
  have h1 := trm_digs hd
  rw [hv, Int.toNat_natCast] at h1
  have h2 : (digs m).length ≤ (digs n).length := by
    rcases Nat.lt_or_ge (digs n).length (digs m).length with h | h
    · have := lt_of_len h; omega
    · exact h
  rw [← h1]
  exact (trm_len_eq (by rw [h1]; omega)).symm

theorem plus_same (a b : Int) (ha : fits a) (hb : fits b) (hs : decide (a < 0) = decide (b < 0)) (nb : Bool) (hnb : nb = decide (a < 0)) (l : List Int) (hl : l = digs (a.natAbs + b.natAbs)) :
    ∀ (E : Env) (v : Value), Rd E (.agg [.lit (.bool nb), .sq l]) v → Rd E (W (a + b)) v := by
  intro E v h
  have hs' : (a < 0) ↔ (b < 0) := by simpa using hs
  refine h.toW (b := nb) rfl rfl ?_ ?_
  · rw [hnb, decide_eq_decide]; omega
  · rw [hl]; congr 1; omega

theorem plus_fc (a b : Int) (h : pDD a b) : FC Tryz.prog 107 [W a, W b] (W (a + b)) := by
  obtain ⟨ha, hb⟩ := h
  have ha' := ha
  have hb' := hb
  unfold fits dl at ha' hb'
  by_cases hs : decide (a < 0) = decide (b < 0)
  · have hbe : (decide (a < 0) == decide (b < 0)) = true := by simpa using hs
    by_cases hl : (digs a.natAbs).length < (digs b.natAbs).length
    · -- the second one is longer
      obtain ⟨i', c', out, k1, k2, k3, k4, k5⟩ := plus0 (decide (a < 0)) (decide (b < 0)) a b b a hb ha (by omega) (by omega)
      rcases k1 with rfl | rfl
      · have := fc_fun ok4 (plB_1 (decide (a < 0)) (decide (b < 0)) a b i' 0 out.length out) (by (repeat' (first | exact AllC.nil | refine AllC.cons ?_ ?_)); all_goals (first | exact viaL_ok | ((with_reducible refine inR64.2 ?_); omega) | (with_reducible refine pFl ?_ ?_ <;> omega) | ((with_reducible refine decide_eq_true ?_); omega) | ((with_reducible refine decide_eq_false ?_); omega) | omega | (simp [hbe, hl] <;> omega) | assumption | rfl))
        rw [take_all] at this
        refine this.res (plus_same a b ha hb hs _ rfl out ?_)
        exact canon_of_ge (m := b.natAbs) (n := a.natAbs + b.natAbs) k2 (by rw [Int.mul_zero] at k4; omega) k3 (by omega)
      · have := fc_fun ok4 (plB_0 (decide (a < 0)) (decide (b < 0)) a b i' 1 out.length out) (by (repeat' (first | exact AllC.nil | refine AllC.cons ?_ ?_)); all_goals (first | exact viaL_ok | ((with_reducible refine inR64.2 ?_); omega) | (with_reducible refine pFl ?_ ?_ <;> omega) | ((with_reducible refine decide_eq_true ?_); omega) | ((with_reducible refine decide_eq_false ?_); omega) | omega | (simp [hbe, hl] <;> omega) | assumption | rfl))
        have e : List.take (out.length + 1) (List.take out.length out ++ List.take 1 [1]) = out ++ [1] := by
          rw [take_snoc]; exact List.take_of_length_le (by simp)
        rw [e] at this
        refine this.res (plus_same a b ha hb hs _ rfl _ ?_)
        have hv : vl (out ++ [1]) = ((a.natAbs + b.natAbs : Nat) : Int) := by rw [vl_snoc]; omega
        have := digs_vl (Digs_snoc k2 (d := 1) (by omega) (by omega)) (trm_last out 1 (by decide))
        rw [hv, Int.toNat_natCast] at this
        exact this.symm
    · by_cases h0 : 0 < (digs a.natAbs).length
      · obtain ⟨i', c', out, k1, k2, k3, k4, k5⟩ := plus0 (decide (a < 0)) (decide (b < 0)) a b a b ha hb (by omega) h0
        rcases k1 with rfl | rfl
        · have := fc_fun ok4 (plA_3 (decide (a < 0)) (decide (b < 0)) a b i' 0 out.length out) (by (repeat' (first | exact AllC.nil | refine AllC.cons ?_ ?_)); all_goals (first | exact viaL_ok | ((with_reducible refine inR64.2 ?_); omega) | (with_reducible refine pFl ?_ ?_ <;> omega) | ((with_reducible refine decide_eq_true ?_); omega) | ((with_reducible refine decide_eq_false ?_); omega) | omega | (simp [hbe, hl] <;> omega) | assumption | rfl))
          rw [take_all] at this
          refine this.res (plus_same a b ha hb hs _ rfl out ?_)
          exact canon_of_ge (m := a.natAbs) (n := a.natAbs + b.natAbs) k2 (by rw [Int.mul_zero] at k4; omega) k3 (by omega)
        · have := fc_fun ok4 (plA_2 (decide (a < 0)) (decide (b < 0)) a b i' 1 out.length out) (by (repeat' (first | exact AllC.nil | refine AllC.cons ?_ ?_)); all_goals (first | exact viaL_ok | ((with_reducible refine inR64.2 ?_); omega) | (with_reducible refine pFl ?_ ?_ <;> omega) | ((with_reducible refine decide_eq_true ?_); omega) | ((with_reducible refine decide_eq_false ?_); omega) | omega | (simp [hbe, hl] <;> omega) | assumption | rfl))
          have e : List.take (out.length + 1) (List.take out.length out ++ List.take 1 [1]) = out ++ [1] := by
            rw [take_snoc]; exact List.take_of_length_le (by simp)
          rw [e] at this
          refine this.res (plus_same a b ha hb hs _ rfl _ ?_)
          have hv : vl (out ++ [1]) = ((a.natAbs + b.natAbs : Nat) : Int) := by rw [vl_snoc]; omega
          have := digs_vl (Digs_snoc k2 (d := 1) (by omega) (by omega)) (trm_last out 1 (by decide))
          rw [hv, Int.toNat_natCast] at this
          exact this.symm
      · have ea : a.natAbs = 0 := (digs_nil _).1 (List.eq_nil_of_length_eq_zero (by omega))
        have eb : b.natAbs = 0 := (digs_nil _).1 (List.eq_nil_of_length_eq_zero (by omega))
        have hL := Loops.fin (LS.of ok4 (plX_2 (decide (a < 0)) (decide (b < 0)) a b a b) (by (repeat' (first | exact AllC.nil | refine AllC.cons ?_ ?_)); all_goals (first | exact viaL_ok | ((with_reducible refine inR64.2 ?_); omega) | (with_reducible refine pFl ?_ ?_ <;> omega) | ((with_reducible refine decide_eq_true ?_); omega) | ((with_reducible refine decide_eq_false ?_); omega) | omega | (simp [h0] <;> omega) | assumption | rfl))) (by simp [Ex.toExit])
        have := fc_fun ok4 (plO_1 (decide (a < 0)) (decide (b < 0)) a b) (by (repeat' (first | exact AllC.nil | refine AllC.cons ?_ ?_)); all_goals (first | exact viaL_ok | ((with_reducible refine inR64.2 ?_); omega) | (with_reducible refine pFl ?_ ?_ <;> omega) | ((with_reducible refine decide_eq_true ?_); omega) | ((with_reducible refine decide_eq_false ?_); omega) | omega | (simp [hbe, hl] <;> omega) | assumption | rfl))
        refine this.res (plus_same a b ha hb hs _ rfl _ ?_)
        rw [ea, eb]; rfl
  · have hbe : (decide (a < 0) == decide (b < 0)) = false := by
      cases h1 : decide (a < 0) <;> cases h2 : decide (b < 0) <;> simp_all
    have hs' : ¬ ((a < 0) ↔ (b < 0)) := by simpa using hs
    rcases Nat.lt_trichotomy a.natAbs b.natAbs with hlt | heq | hgt
    · -- the second one is greater
      obtain ⟨out, bo, k1, k2, k3, k4, k5⟩ := lessL (decide (a < 0)) (decide (b < 0)) a b a (digs b.natAbs).length hb' (by
        rcases Nat.lt_or_ge (digs b.natAbs).length (digs a.natAbs).length with h | h
        · have := lt_of_len h; omega
        · exact h) (digs b.natAbs) [] 0 (.inl rfl) (fun d hd => by cases hd) (Digs_digs _) (by simp)
      simp only [List.length_nil, List.nil_append, vl, Int.pow_zero, Int.one_mul, Int.zero_add, List.drop_zero, vl_digs, Int.sub_zero] at k4 k5
      have hv := vl_lt k1
      rw [k2] at hv
      have hbo : bo = 0 := by
        rcases k3 with h | h
        · exact h
        · subst h; omega
      subst hbo
      have hcmp : cmpI (a.natAbs : Int) (b.natAbs : Int) = -1 := by unfold cmpI; rw [if_pos (by omega)]
      have hbn : b ≠ 0 := by omega
      have hne := digs_ne hbn
      have k5' : Loops 5 Tryz.prog (lpOf Tryz.prog 155 0) (PL (decide (a < 0)) (decide (b < 0)) a b a 0 0 (digs b.natAbs).length (digs b.natAbs)) (.exit 0, PL (decide (a < 0)) (decide (b < 0)) a b a 0 ((digs b.natAbs).length : Int) (digs b.natAbs).length out) := k5
      have hP : pDD a b := ⟨ha, hb⟩
      have ht : List.take (digs b.natAbs).length out = out := by rw [← k2, take_all]
      have := fc_fun ok4 (plD_2 (decide (a < 0)) (decide (b < 0)) a b ((digs b.natAbs).length : Int) out) (by
        rw [hcmp, ht]
        simp only [Nat.zero_add, List.take_zero, List.nil_append]
        exact (by (repeat' (first | exact AllC.nil | refine AllC.cons ?_ ?_)); all_goals (first | exact viaL_ok | ((with_reducible refine inR64.2 ?_); omega) | (with_reducible refine pFl ?_ ?_ <;> omega) | ((with_reducible refine decide_eq_true ?_); omega) | ((with_reducible refine decide_eq_false ?_); omega) | omega | (simp [hbe, hne, short64] <;> omega) | assumption | rfl)))
      rw [ht] at this
      refine this.res fun E v h => h.toW (b := decide (b < 0)) rfl rfl ?_ ?_
      · rw [decide_eq_decide]; omega
      · rw [trm_digs k1]; congr 1; omega
    · have := fc_fun ok4 (plN_0 (decide (a < 0)) (decide (b < 0)) a b) (by
        have hP : pDD a b := ⟨ha, hb⟩
        have hcmp : cmpI (a.natAbs : Int) (b.natAbs : Int) = 0 := by unfold cmpI; rw [if_neg (by omega), if_neg (by omega)]
        rw [hcmp]
        exact (by (repeat' (first | exact AllC.nil | refine AllC.cons ?_ ?_)); all_goals (first | exact viaL_ok | ((with_reducible refine inR64.2 ?_); omega) | (with_reducible refine pFl ?_ ?_ <;> omega) | ((with_reducible refine decide_eq_true ?_); omega) | ((with_reducible refine decide_eq_false ?_); omega) | omega | (simp [hbe] <;> omega) | assumption | rfl)))
      refine this.res fun E v h => h.toW (b := false) (l := []) rfl rfl ?_ ?_
      · simp; omega
      · rw [show (a + b).natAbs = 0 by omega]; rfl
    · obtain ⟨out, bo, k1, k2, k3, k4, k5⟩ := lessL (decide (a < 0)) (decide (b < 0)) a b b (digs a.natAbs).length ha' (by
        rcases Nat.lt_or_ge (digs a.natAbs).length (digs b.natAbs).length with h | h
        · have := lt_of_len h; omega
        · exact h) (digs a.natAbs) [] 0 (.inl rfl) (fun d hd => by cases hd) (Digs_digs _) (by simp)
      simp only [List.length_nil, List.nil_append, vl, Int.pow_zero, Int.one_mul, Int.zero_add, List.drop_zero, vl_digs, Int.sub_zero] at k4 k5
      have hv := vl_lt k1
      rw [k2] at hv
      have hbo : bo = 0 := by
        rcases k3 with h | h
        · exact h
        · subst h; omega
      subst hbo
      have hcmp : cmpI (a.natAbs : Int) (b.natAbs : Int) = 1 := by unfold cmpI; rw [if_neg (by omega), if_pos (by omega)]
      have hbn : a ≠ 0 := by omega
      have hne := digs_ne hbn
      have k5' : Loops 5 Tryz.prog (lpOf Tryz.prog 155 0) (PL (decide (a < 0)) (decide (b < 0)) a b b 0 0 (digs a.natAbs).length (digs a.natAbs)) (.exit 0, PL (decide (a < 0)) (decide (b < 0)) a b b 0 ((digs a.natAbs).length : Int) (digs a.natAbs).length out) := k5
      have hP : pDD a b := ⟨ha, hb⟩
      have ht : List.take (digs a.natAbs).length out = out := by rw [← k2, take_all]
      have := fc_fun ok4 (plC_1 (decide (a < 0)) (decide (b < 0)) a b ((digs a.natAbs).length : Int) out) (by
        rw [hcmp, ht]
        simp only [Nat.zero_add, List.take_zero, List.nil_append]
        exact (by (repeat' (first | exact AllC.nil | refine AllC.cons ?_ ?_)); all_goals (first | exact viaL_ok | ((with_reducible refine inR64.2 ?_); omega) | (with_reducible refine pFl ?_ ?_ <;> omega) | ((with_reducible refine decide_eq_true ?_); omega) | ((with_reducible refine decide_eq_false ?_); omega) | omega | (simp [hbe, hne, short64] <;> omega) | assumption | rfl)))
      rw [ht] at this
      refine this.res fun E v h => h.toW (b := decide (a < 0)) rfl rfl ?_ ?_
      · rw [decide_eq_decide]; omega
      · rw [trm_digs k1]; congr 1; omega

def ctr5 : Ctr := (107, c2 pDD (fun a b => W (a + b))) :: ctr4
theorem ctr5_all : ∀ p ∈ ctr5, CtrOK Tryz.prog p.1 p.2 := CAll.cons (c2_ok plus_fc) ctr4_all
theorem ok5 : (mkCfg Tryz.prog ctr5 bw).OK := cfg_ok ctr5_all

end Go.Proofs.YtcpgkgldibobeaaGreatDoor
end
