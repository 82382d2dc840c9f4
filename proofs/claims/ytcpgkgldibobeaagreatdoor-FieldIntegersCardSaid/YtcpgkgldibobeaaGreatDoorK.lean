/- Part of a proof about a given program: see the last module of the claim. -/
import Derived.Test.YtcpgkgldibobeaaGreatDoorD
import Derived.Test.YtcpgkgldibobeaaGreatDoorB
import Derived.Test.YtcpgkgldibobeaaGreatDoorJ
section
open Go Go.Ev Go.RowKit
namespace Go.Proofs.YtcpgkgldibobeaaGreatDoor
open Go.Proofs
set_option maxRecDepth 100000
set_option maxHeartbeats 1000000
set_option linter.unusedVariables false
set_option linter.unusedSimpArgs false
abbrev RT (l : List Int) (n : Int) : St := ⟨sp 23 [(0, .sq l), (3, .lit (.int .i64 n))], [], []⟩

theorem rsp_0 (n : Int) : funA (mkCfg Tryz.prog ctr11 bw) 60 131 [.lit (.int .i64 n)] [true] [] = some (AV.tup [aI (Int.tdiv n 100000000 - 1), aI (Int.tmod n 100000000 + 100000000)], [true = true, inR IntKind.i64 (Int.tdiv n 100000000) = true, true = true, decide (Int.tmod n 100000000 < 0) = true, inR IntKind.i64 (Int.tdiv n 100000000 - 1) = true, inR IntKind.i64 (Int.tmod n 100000000 + 100000000) = true]) := by kernel_rfl
theorem rsp_1 (n : Int) : funA (mkCfg Tryz.prog ctr11 bw) 60 131 [.lit (.int .i64 n)] [false] [] = some (AV.tup [aI (Int.tdiv n 100000000), aI (Int.tmod n 100000000)], [true = true, inR IntKind.i64 (Int.tdiv n 100000000) = true, true = true, decide (Int.tmod n 100000000 < 0) = false]) := by kernel_rfl
theorem rtl_0 (l : List Int) (n : Int) : rndA (mkCfg Tryz.prog ctr11 bw) 60 (lpOf Tryz.prog 132 0) 0 [] [0, 3] [] (RT l n) [true, true] [] = some (Ex.normal, ⟨sp 23 [(0, AV.sq l), (3, aI (n - 1))], [], []⟩, [decide (n > 0) = true, inR IntKind.i64 (n - 1) = true, decide (0 ≤ n - 1) = true, decide (n - 1 < (↑(List.length l) : Int)) = true, decide (Int.toNat (n - 1) < List.length l) = true, (List.getD l (Int.toNat (n - 1)) 0 == 0) = true, inR IntKind.i64 (n - 1) = true]) := by kernel_rfl
theorem rtl_1 (l : List Int) (n : Int) : rndA (mkCfg Tryz.prog ctr11 bw) 60 (lpOf Tryz.prog 132 0) 0 [] [0, 3] [] (RT l n) [true, false] [] = some (Ex.exit 0, ⟨sp 23 [(0, AV.sq l), (3, aI n)], [], []⟩, [decide (n > 0) = true, inR IntKind.i64 (n - 1) = true, decide (0 ≤ n - 1) = true, decide (n - 1 < (↑(List.length l) : Int)) = true, decide (Int.toNat (n - 1) < List.length l) = true, (List.getD l (Int.toNat (n - 1)) 0 == 0) = false]) := by kernel_rfl
theorem rtl_2 (l : List Int) (n : Int) : rndA (mkCfg Tryz.prog ctr11 bw) 60 (lpOf Tryz.prog 132 0) 0 [] [0, 3] [] (RT l n) [false] [] = some (Ex.exit 0, ⟨sp 23 [(0, AV.sq l), (3, aI n)], [], []⟩, [decide (n > 0) = false]) := by kernel_rfl
theorem rtf_0 (l : List Int) (n : Int) : funA (mkCfg Tryz.prog ctr11 bw) 60 132 [.sq l] [] [some (viaL Tryz.prog (lpOf Tryz.prog 132 0) [] [0,3] [] (RT l (l.length : Int)) (.exit 0, RT l n))] = some (AV.sq (List.take (0 + List.length (List.drop 0 (List.take (Int.toNat n) l))) (List.take 0 [] ++ List.drop 0 (List.take (Int.toNat n) l))), [LoopOK Tryz.prog (lpOf Tryz.prog 132 0) (viaL Tryz.prog (lpOf Tryz.prog 132 0) [] [0, 3] [] ⟨sp 23 [(0, AV.sq l), (3, aI (↑(List.length l) : Int))], [], []⟩ (Ex.exit 0, ⟨sp 23 [(0, AV.sq l), (3, aI n)], [], []⟩)), (⟨sp 23 [(0, AV.sq l), (3, aI (↑(List.length l) : Int))], [], []⟩ : St) = ⟨sp 23 [(0, AV.sq l), (3, aI (↑(List.length l) : Int))], [], []⟩, Loops 0 Tryz.prog (lpOf Tryz.prog 132 0) ⟨sp 23 [(0, AV.sq l), (3, aI (↑(List.length l) : Int))], [], []⟩ (Ex.exit 0, ⟨sp 23 [(0, AV.sq l), (3, aI n)], [], []⟩), true = true, decide (0 ≤ n) = true, decide (n ≤ (↑(List.length l) : Int)) = true, decide ((0 + List.length (List.drop 0 (List.take (Int.toNat n) l))) * 8 ≤ 140737488355328) = true, decide (0 + List.length (List.drop 0 (List.take (Int.toNat n) l)) ≤ 4611686018427387904) = true, true = true, decide (List.length (List.drop 0 (List.take (Int.toNat n) l)) = List.length (List.drop 0 (List.take (Int.toNat n) l))) = true, 0 + List.length (List.drop 0 (List.take (Int.toNat n) l)) ≤ List.length (List.take 0 [] ++ List.drop 0 (List.take (Int.toNat n) l))]) := by kernel_rfl
theorem rsplit_fc (n : Int) (h : pFloored n) : FC Tryz.prog 131 [.lit (.int .i64 n)] (rFloored n) := by
  obtain ⟨h1, h2⟩ := h
  have ht := Int.mul_tdiv_add_tmod n 100000000
  by_cases hn : Int.tmod n 100000000 < 0
  · have hp : n < 0 := by
      rcases Int.lt_or_le n 0 with h | h
      · exact h
      · have := Int.tmod_nonneg 100000000 h; omega
    have hb : -100000000 < Int.tmod n 100000000 := by
      have := Int.lt_tmod_of_pos n (show (0 : Int) < 100000000 by decide); omega
    have e1 : Int.tdiv n 100000000 - 1 = n / 100000000 := by omega
    have e2 : Int.tmod n 100000000 + 100000000 = n % 100000000 := by omega
    have := fc_fun ok11 (rsp_0 n) (.cons (by simp) (.cons (inR64.2 (by omega)) (.cons (by simp) (.cons (by simpa using hn) (.cons (inR64.2 (by omega)) (.cons (inR64.2 (by omega)) .nil))))))
    rw [e1, e2] at this
    exact this
  · have hb : Int.tmod n 100000000 < 100000000 := Int.tmod_lt_of_pos n (by decide)
    have e1 : Int.tdiv n 100000000 = n / 100000000 := by omega
    have e2 : Int.tmod n 100000000 = n % 100000000 := by omega
    have := fc_fun ok11 (rsp_1 n) (.cons (by simp) (.cons (inR64.2 (by omega)) (.cons (by simp) (.cons (by simpa using hn) .nil))))
    rw [e1, e2] at this
    exact this
theorem rtrim_loops (l : List Int) (hs : l.length ≤ 1048576) : ∀ (n : Nat), n ≤ l.length → ∃ m : Nat, m ≤ n ∧ l.take m = trm (l.take n) ∧ Loops 0 Tryz.prog (lpOf Tryz.prog 132 0) (RT l n) (.exit 0, RT l m)
  | 0, _ => ⟨0, Nat.le_refl _, by simp [trm], Loops.fin (LS.of ok11 (rtl_2 l 0) (.cons (by simp) .nil)) (by simp [Ex.toExit])⟩
  | n + 1, hn => by
    have hnat : Int.toNat (((n + 1 : Nat) : Int) - 1) = n := by omega
    have hc : ((n + 1 : Nat) : Int) - 1 = (n : Int) := by omega
    have hlt : n < l.length := by omega
    have hg : l.getD n 0 = l[n] := by simp [List.getD, hlt]
    by_cases hd : l.getD n 0 = 0
    · have hx : (l.getD n 0 == 0) = true := by rw [hd]; rfl
      obtain ⟨m, h1, h2, h3⟩ := rtrim_loops l hs n (by omega)
      have h := LS.of ok11 (rtl_0 l (n + 1 : Nat)) (by rw [hnat]; (repeat' (first | exact AllC.nil | refine AllC.cons ?_ ?_)); all_goals (first | (with_reducible exact hx) | (with_reducible exact inR64.2 (by omega)) | (refine decide_eq_true ?_; omega)))
      rw [hc] at h
      refine ⟨m, by omega, ?_, Loops.go h h3⟩
      rw [List.take_succ_eq_append_getElem hlt, ← hg, hd, trm_zero, h2]
    · have hx : (l.getD n 0 == 0) = false := by simpa using hd
      have h := LS.of ok11 (rtl_1 l (n + 1 : Nat)) (by rw [hnat]; (repeat' (first | exact AllC.nil | refine AllC.cons ?_ ?_)); all_goals (first | (with_reducible exact hx) | (with_reducible exact inR64.2 (by omega)) | (refine decide_eq_true ?_; omega)))
      refine ⟨n + 1, Nat.le_refl _, ?_, Loops.fin h (by simp [Ex.toExit])⟩
      rw [List.take_succ_eq_append_getElem hlt, ← hg, trm_last _ _ hd]
def pTr (l : List Int) : Prop := l.length ≤ 1048576
theorem rtrim_fc (l : List Int) (h : pTr l) : FC Tryz.prog 132 [.sq l] (.sq (trm l)) := by
  obtain ⟨m, h1, h2, h3⟩ := rtrim_loops l h l.length (Nat.le_refl _)
  rw [List.take_length] at h2
  have hn : Int.toNat (m : Int) = m := by omega
  have e := rtf_0 l m
  rw [hn] at e
  have := fc_fun ok11 e (by (repeat' (first | exact AllC.nil | refine AllC.cons ?_ ?_)); all_goals (first | (with_reducible exact viaL_ok) | (with_reducible exact h3) | (with_reducible rfl) | (unfold pTr at h; refine decide_eq_true ?_; simp <;> omega) | (unfold pTr at h; simp <;> omega) | (simp; done)))
  have e2 : List.take (0 + List.length (List.drop 0 (List.take m l))) (List.take 0 [] ++ List.drop 0 (List.take m l)) = trm l := by simp [h2]
  rw [e2] at this
  exact this

end Go.Proofs.YtcpgkgldibobeaaGreatDoor
end

section
open Go Go.Ev Go.RowKit
namespace Go.Proofs.YtcpgkgldibobeaaGreatDoor
open Go.Proofs
set_option maxRecDepth 100000
set_option maxHeartbeats 1000000
set_option linter.unusedVariables false
set_option linter.unusedSimpArgs false
def ctrF1 : Ctr := (132, cL pTr (fun x => .sq (trm x))) :: (131, cI pFloored rFloored) :: ctr11
theorem ctrF1_all : ∀ p ∈ ctrF1, CtrOK Tryz.prog p.1 p.2 := CAll.cons (cL_ok rtrim_fc) <| CAll.cons (cI_ok rsplit_fc) ctr11_all
theorem okF1 : (mkCfg Tryz.prog ctrF1 bw).OK := cfg_ok ctrF1_all
theorem okF1o : (mkCfg Tryz.prog ctrF1 bw [132]).OK := cfg_ok ctrF1_all
abbrev RG (b : Bool) (n : Nat) (q : List Int) (i : Int) : St := ⟨sp 27 [(1, .lit (.bool b)), (5, .own 1 0 n 1), (6, .lit (.int .i64 i))], [.dead, .ints q true], [1, 0]⟩

theorem rsl_0 (b : Bool) (n : Nat) (q : List Int) (i : Int) : rndA (mkCfg Tryz.prog ctrF1 bw [132]) 60 (lpOf Tryz.prog 133 0) 2 [] [1, 5, 6] [1, 0] (RG b n q i) [true, true] [] = some (Ex.normal, ⟨sp 27 [(1, AV.lit (Value.bool b)), (5, AV.own 1 0 n 1), (6, aI (i + 1))], [Row.dead, Row.ints (List.set q (0 + Int.toNat i * 1) (0 - List.getD q (0 + Int.toNat i * 1) 0)) true], [1, 0]⟩, [decide (i < (↑n : Int)) = true, b = true, decide (0 ≤ i) = true, decide (i < (↑n : Int)) = true, decide (0 + Int.toNat i * 1 < List.length q) = true, inR IntKind.i64 (0 - List.getD q (0 + Int.toNat i * 1) 0) = true, decide (0 ≤ i) = true, decide (i < (↑n : Int)) = true, decide (0 + Int.toNat i * 1 < List.length q) = true, inR IntKind.i64 (i + 1) = true]) := by kernel_rfl
theorem rsl_1 (b : Bool) (n : Nat) (q : List Int) (i : Int) : rndA (mkCfg Tryz.prog ctrF1 bw [132]) 60 (lpOf Tryz.prog 133 0) 2 [] [1, 5, 6] [1, 0] (RG b n q i) [true, false] [] = some (Ex.exit 0, ⟨sp 27 [(1, AV.lit (Value.bool b)), (5, AV.own 1 0 n 1), (6, aI i)], [Row.dead, Row.ints q true], [1, 0]⟩, [decide (i < (↑n : Int)) = true, b = false]) := by kernel_rfl
theorem rsl_2 (b : Bool) (n : Nat) (q : List Int) (i : Int) : rndA (mkCfg Tryz.prog ctrF1 bw [132]) 60 (lpOf Tryz.prog 133 0) 2 [] [1, 5, 6] [1, 0] (RG b n q i) [false] [] = some (Ex.exit 0, ⟨sp 27 [(1, AV.lit (Value.bool b)), (5, AV.own 1 0 n 1), (6, aI i)], [Row.dead, Row.ints q true], [1, 0]⟩, [decide (i < (↑n : Int)) = false]) := by kernel_rfl
theorem rsf_0 (l : List Int) (n N : Nat) (b : Bool) (q : List Int) (i : Int) : funA (mkCfg Tryz.prog ctrF1 bw [132]) 60 133 [.sq l, .lit (.bool b)] [] [none, some (viaL Tryz.prog (lpOf Tryz.prog 132 0) [] [0,3] [] (RT l (l.length : Int)) (.exit 0, RT l n)), some (viaL Tryz.prog (lpOf Tryz.prog 133 0) [] [1,5,6] [1,0] (RG b N (l.take n) 0) (.exit 0, RG b N q i))] = some (AV.sq (List.take N q), [LoopOK Tryz.prog (lpOf Tryz.prog 132 0) (viaL Tryz.prog (lpOf Tryz.prog 132 0) [] [0, 3] [] ⟨sp 23 [(0, AV.sq l), (3, aI (↑(List.length l) : Int))], [], []⟩ (Ex.exit 0, ⟨sp 23 [(0, AV.sq l), (3, aI (↑n : Int))], [], []⟩)), (⟨sp 23 [(0, AV.sq l), (3, aI (↑(List.length l) : Int))], [], []⟩ : St) = ⟨sp 23 [(0, AV.sq l), (3, aI (↑(List.length l) : Int))], [], []⟩, Loops 0 Tryz.prog (lpOf Tryz.prog 132 0) ⟨sp 23 [(0, AV.sq l), (3, aI (↑(List.length l) : Int))], [], []⟩ (Ex.exit 0, ⟨sp 23 [(0, AV.sq l), (3, aI (↑n : Int))], [], []⟩), true = true, decide (0 ≤ (↑n : Int)) = true, decide ((↑n : Int) ≤ (↑(List.length l) : Int)) = true, decide ((0 + List.length (List.drop 0 (List.take (Int.toNat (↑n : Int)) l))) * 8 ≤ 140737488355328) = true, decide (0 + List.length (List.drop 0 (List.take (Int.toNat (↑n : Int)) l)) ≤ 4611686018427387904) = true, true = true, decide (List.length (List.drop 0 (List.take (Int.toNat (↑n : Int)) l)) = List.length (List.drop 0 (List.take (Int.toNat (↑n : Int)) l))) = true, LoopOK Tryz.prog (lpOf Tryz.prog 133 0) (viaL Tryz.prog (lpOf Tryz.prog 133 0) [] [1, 5, 6] [1, 0] ⟨sp 27 [(1, AV.lit (Value.bool b)), (5, AV.own 1 0 N 1), (6, aI 0)], [Row.dead, Row.ints (List.take n l) true], [1, 0]⟩ (Ex.exit 0, ⟨sp 27 [(1, AV.lit (Value.bool b)), (5, AV.own 1 0 N 1), (6, aI i)], [Row.dead, Row.ints q true], [1, 0]⟩)), (⟨sp 27 [(1, AV.lit (Value.bool b)), (5, AV.own 1 0 (0 + List.length (List.drop 0 (List.take (Int.toNat (↑n : Int)) l))) 1), (6, aI 0)], [Row.dead, Row.ints (List.take 0 [] ++ List.drop 0 (List.take (Int.toNat (↑n : Int)) l)) true], [1, 0]⟩ : St) = ⟨sp 27 [(1, AV.lit (Value.bool b)), (5, AV.own 1 0 N 1), (6, aI 0)], [Row.dead, Row.ints (List.take n l) true], [1, 0]⟩, Loops 2 Tryz.prog (lpOf Tryz.prog 133 0) ⟨sp 27 [(1, AV.lit (Value.bool b)), (5, AV.own 1 0 N 1), (6, aI 0)], [Row.dead, Row.ints (List.take n l) true], [1, 0]⟩ (Ex.exit 0, ⟨sp 27 [(1, AV.lit (Value.bool b)), (5, AV.own 1 0 N 1), (6, aI i)], [Row.dead, Row.ints q true], [1, 0]⟩), N ≤ List.length q]) := by kernel_rfl
theorem rs_loop (N : Nat) (hN : N ≤ 1048576) : ∀ (suf pre : List Int), pre.length + suf.length = N → (∀ d ∈ suf, -9223372036854775807 ≤ d ∧ d ≤ 9223372036854775807) →
    Loops 2 Tryz.prog (lpOf Tryz.prog 133 0) (RG true N (pre ++ suf) pre.length) (.exit 0, RG true N (pre ++ suf.map fun d => -d) N)
  | [], pre, hl, _ => by
    have e : pre.length = N := by simpa using hl
    rw [e]
    exact Loops.fin (LS.of okF1o (rsl_2 true N (pre ++ []) N) (.cons (by simp) .nil)) (by simp [Ex.toExit])
  | d :: suf, pre, hl, hd => by
    have hl' : pre.length + (suf.length + 1) = N := by simpa using hl
    have hnat : 0 + Int.toNat (pre.length : Int) * 1 = pre.length := by omega
    have hg : (pre ++ d :: suf).getD pre.length 0 = d := by simp [List.getD]
    have hs : (pre ++ d :: suf).set pre.length (0 - d) = (pre ++ [-d]) ++ suf := by
      rw [List.set_append_right _ _ (Nat.le_refl _), Nat.sub_self, List.set_cons_zero, Int.zero_sub]; simp
    have hdd := hd d (by simp)
    have h := LS.of okF1o (rsl_0 true N (pre ++ d :: suf) pre.length) (by rw [hnat, hg]; (repeat' (first | exact AllC.nil | refine AllC.cons ?_ ?_)); all_goals (first | (with_reducible rfl) | (with_reducible exact inR64.2 (by omega)) | (refine decide_eq_true ?_; first | omega | (simp <;> omega))))
    rw [hnat, hg, hs] at h
    have k := rs_loop N hN suf (pre ++ [-d]) (by simp; omega) (fun x hx => hd x (by simp [hx]))
    have e1 : ((pre ++ [-d]).length : Int) = (pre.length : Int) + 1 := by simp
    have e2 : (pre ++ [-d]) ++ suf.map (fun d => -d) = pre ++ (d :: suf).map fun d => -d := by simp
    rw [e1, e2] at k
    exact Loops.go h k
def pSg (l : List Int) : Prop := l.length ≤ 1048576 ∧ ∀ d ∈ l, -9223372036854775807 ≤ d ∧ d ≤ 9223372036854775807
def sgnd (b : Bool) (l : List Int) : List Int := match b with | true => (trm l).map fun d => -d | false => trm l
theorem rsigned_fc (l : List Int) (b : Bool) (h : pSg l) : FC Tryz.prog 133 [.sq l, .lit (.bool b)] (.sq (sgnd b l)) := by
  obtain ⟨h0, hd⟩ := h
  obtain ⟨m, h1, h2, h3⟩ := rtrim_loops l h0 l.length (Nat.le_refl _)
  rw [List.take_length] at h2
  have hlen : (l.take m).length = m := by rw [List.length_take]; omega
  have hm : ∀ d ∈ l.take m, -9223372036854775807 ≤ d ∧ d ≤ 9223372036854775807 := fun d hx => hd d (List.mem_of_mem_take hx)
  have hn : Int.toNat (m : Int) = m := by omega
  have key : ∃ (q : List Int) (i : Int), q.take m = sgnd b l ∧ Loops 2 Tryz.prog (lpOf Tryz.prog 133 0) (RG b m (l.take m) 0) (.exit 0, RG b m q i) ∧ q.length = m := by
    cases b with
    | true => exact ⟨(l.take m).map fun d => -d, m, by rw [List.take_of_length_le (by simp; omega), h2]; rfl, rs_loop m (by omega) (l.take m) [] (by simpa using hlen) hm, by simp; omega⟩
    | false =>
      refine ⟨l.take m, 0, by rw [List.take_of_length_le (by omega), h2]; rfl, ?_, hlen⟩
      by_cases hz : m = 0
      · subst hz; exact Loops.fin (LS.of okF1o (rsl_2 false 0 (l.take 0) 0) (.cons (by simp) .nil)) (by simp [Ex.toExit])
      · exact Loops.fin (LS.of okF1o (rsl_1 false m (l.take m) 0) (.cons (decide_eq_true (by omega)) (.cons rfl .nil))) (by simp [Ex.toExit])
  obtain ⟨q, i, k1, k2, k3⟩ := key
  have e := rsf_0 l m m b q i
  rw [hn] at e
  have e0 : 0 + List.length (List.drop 0 (List.take m l)) = m := by simp; omega
  have e1 : List.take 0 [] ++ List.drop 0 (List.take m l) = l.take m := by simp
  rw [e0, e1] at e
  have := fc_fun okF1o e (by (repeat' (first | exact AllC.nil | refine AllC.cons ?_ ?_)); all_goals (first | (with_reducible exact viaL_ok) | (with_reducible exact h3) | (with_reducible exact k2) | (with_reducible rfl) | (refine decide_eq_true ?_; simp <;> omega) | omega | (simp <;> omega) | (simp; done)))
  rw [k1] at this
  exact this
/-- A contract over a list and a bool. -/
def cLB (p : List Int → Prop) [∀ l, Tst (p l)] (r : Bool → List Int → AV) (args : List AV) : M AV := match args with
  | [x, y] => do
    let l ← ofOpt 280 (ints? x)
    let b ← ofOpt 281 (asB y)
    tellD (p l) (Tst.b (p l))
    gives (r b l)
  | _ => fail 282
theorem cLB_ok {P : Program} {f : FuncId} {p : List Int → Prop} [∀ l, Tst (p l)] {r : Bool → List Int → AV} (h : ∀ l b, p l → FC P f [.sq l, .lit (.bool b)] (r b l)) : CtrOK P f (cLB p r) := by
  intro args _
  unfold cLB
  split
  · exact Spec.bind (Spec.ofOpt fun l hl => Spec.bind (Spec.ofOpt fun b hb => Spec.bind (Spec.tellD Tst.ok fun hp => Spec.gives ((h l b hp).le (.cons (fun E v hv => hv.toSq hl) (.cons (Le.ofBool hb) .nil)) (Le.refl _)))))
  · exact Spec.fail
def ctrF2 : Ctr := (133, cLB pSg (fun b l => .sq (sgnd b l))) :: ctrF1
theorem ctrF2_all : ∀ p ∈ ctrF2, CtrOK Tryz.prog p.1 p.2 := CAll.cons (cLB_ok rsigned_fc) ctrF1_all
theorem okF2 : (mkCfg Tryz.prog ctrF2 bw).OK := cfg_ok ctrF2_all

end Go.Proofs.YtcpgkgldibobeaaGreatDoor
end

section
open Go Go.Ev Go.RowKit
namespace Go.Proofs.YtcpgkgldibobeaaGreatDoor
open Go.Proofs
set_option maxRecDepth 100000
set_option maxHeartbeats 1000000
set_option linter.unusedVariables false
set_option linter.unusedSimpArgs false

abbrev rn_L0 (s : St) (r : Ex × St) : Prop := Loops 0 Tryz.prog (lpOf Tryz.prog 68 0) s r
abbrev rn_L0_0 (q0 : List Int) : St := ⟨sp 92 [(0, AV.sq q0), (3, aN), (4, aI 0), (5, aI 0)], [], []⟩
abbrev rn_L0_1 (q0 : List Int) (n3 : Nat) (t4 : Int) (t5 : Int) (lr0 : List Int) : St := ⟨sp 92 [(0, AV.sq q0), (3, AV.own 0 0 n3 1), (4, aI t4), (5, aI t5)], [Row.ints lr0 true], []⟩
abbrev rn_L0_E0 (q0 : List Int) : St := ⟨sp 92 [(0, AV.sq q0), (3, aN), (4, aI 0), (5, aI 0)], [], []⟩
abbrev rn_L0_E1 (q0 : List Int) (n3 : Nat) (t4 : Int) (t5 : Int) (lr0 : List Int) : St := ⟨sp 92 [(0, AV.sq q0), (3, AV.own 0 0 n3 1), (4, aI t4), (5, aI t5)], [Row.ints lr0 true], []⟩
theorem rn_L0_0_0 (q0 : List Int) (h1 : 0 < (↑(List.length q0) : Int)) (h2 : 0 < List.length q0) (h3 : pFloored (List.getD q0 0 0)) (h4 : -9223372036854775808 ≤ List.getD q0 0 0 % 100000000 + 0 ∧ List.getD q0 0 0 % 100000000 + 0 ≤ 9223372036854775807) (h5 : pFloored (List.getD q0 0 0 % 100000000 + 0)) (h6 : -9223372036854775808 ≤ List.getD q0 0 0 / 100000000 + (List.getD q0 0 0 % 100000000 + 0) / 100000000 ∧ List.getD q0 0 0 / 100000000 + (List.getD q0 0 0 % 100000000 + 0) / 100000000 ≤ 9223372036854775807) {r : Ex × St} (k : rn_L0 (rn_L0_1 q0 (1) (List.getD q0 0 0 / 100000000 + (List.getD q0 0 0 % 100000000 + 0) / 100000000) (1) ([(List.getD q0 0 0 % 100000000 + 0) % 100000000])) r) : rn_L0 (rn_L0_0 q0) r := Loops.go (LS.of okF2 (show rndA (mkCfg Tryz.prog ctrF2 bw) 60 (lpOf Tryz.prog 68 0) 0 [1] [0, 3, 4, 5] [] (rn_L0_0 q0) [true] [] = some (Ex.normal, (rn_L0_1 q0 (1) (List.getD q0 0 0 / 100000000 + (List.getD q0 0 0 % 100000000 + 0) / 100000000) (1) ([(List.getD q0 0 0 % 100000000 + 0) % 100000000])), ((decide (0 < (↑(List.length q0) : Int)) = true) :: ttC 1 ((decide (0 < (↑(List.length q0) : Int)) = true) :: (decide (0 < List.length q0) = true) :: (pFloored (List.getD q0 0 0)) :: (inR IntKind.i64 (List.getD q0 0 0 % 100000000 + 0) = true) :: (pFloored (List.getD q0 0 0 % 100000000 + 0)) :: ttC 3 ((decide (List.length (List.take 1 [(List.getD q0 0 0 % 100000000 + 0) % 100000000]) = 1) = true) :: (inR IntKind.i64 (List.getD q0 0 0 / 100000000 + (List.getD q0 0 0 % 100000000 + 0) / 100000000) = true) :: ttC 1 ([]))))) by kernel_rfl) (AllC.cons (decide_eq_true h1) (AllC.tt 1 (AllC.cons (decide_eq_true h1) (AllC.cons (decide_eq_true h2) (AllC.cons (h3) (AllC.cons (inR64.2 h4) (AllC.cons (h5) (AllC.tt 3 (AllC.cons (decide_eq_true rfl) (AllC.cons (inR64.2 h6) (AllC.tt 1 AllC.nil)))))))))))) k
theorem rn_L0_0_1 (q0 : List Int) (h1 : ¬ (0 < (↑(List.length q0) : Int))) : rn_L0 (rn_L0_0 q0) (Ex.exit 0, (rn_L0_E0 q0)) := Loops.fin (LS.of okF2 (show rndA (mkCfg Tryz.prog ctrF2 bw) 60 (lpOf Tryz.prog 68 0) 0 [] [0, 3, 4, 5] [] (rn_L0_0 q0) [false] [] = some (Ex.exit 0, (rn_L0_E0 q0), ((decide (0 < (↑(List.length q0) : Int)) = false) :: [])) by kernel_rfl) (AllC.cons (decide_eq_false h1) AllC.nil)) (fun h => nomatch h)
theorem rn_L0_1_0 (q0 : List Int) (n3 : Nat) (t4 : Int) (t5 : Int) (lr0 : List Int) (h1 : t5 < (↑(List.length q0) : Int)) (h2 : 0 ≤ t5) (h3 : Int.toNat t5 < List.length q0) (h4 : pFloored (List.getD q0 (Int.toNat t5) 0)) (h5 : -9223372036854775808 ≤ List.getD q0 (Int.toNat t5) 0 % 100000000 + t4 ∧ List.getD q0 (Int.toNat t5) 0 % 100000000 + t4 ≤ 9223372036854775807) (h6 : pFloored (List.getD q0 (Int.toNat t5) 0 % 100000000 + t4)) (h7 : (n3 + 1) * 8 ≤ 140737488355328) (h8 : n3 + 1 ≤ 4611686018427387904) (h9 : n3 ≤ List.length lr0) (h10 : -9223372036854775808 ≤ List.getD q0 (Int.toNat t5) 0 / 100000000 + (List.getD q0 (Int.toNat t5) 0 % 100000000 + t4) / 100000000 ∧ List.getD q0 (Int.toNat t5) 0 / 100000000 + (List.getD q0 (Int.toNat t5) 0 % 100000000 + t4) / 100000000 ≤ 9223372036854775807) (h11 : -9223372036854775808 ≤ t5 + 1 ∧ t5 + 1 ≤ 9223372036854775807) {r : Ex × St} (k : rn_L0 (rn_L0_1 q0 (n3 + 1) (List.getD q0 (Int.toNat t5) 0 / 100000000 + (List.getD q0 (Int.toNat t5) 0 % 100000000 + t4) / 100000000) (t5 + 1) (List.take n3 lr0 ++ List.take 1 [(List.getD q0 (Int.toNat t5) 0 % 100000000 + t4) % 100000000])) r) : rn_L0 (rn_L0_1 q0 n3 t4 t5 lr0) r := Loops.go (LS.of okF2 (show rndA (mkCfg Tryz.prog ctrF2 bw) 60 (lpOf Tryz.prog 68 0) 0 [2] [0, 3, 4, 5] [] (rn_L0_1 q0 n3 t4 t5 lr0) [true] [] = some (Ex.normal, (rn_L0_1 q0 (n3 + 1) (List.getD q0 (Int.toNat t5) 0 / 100000000 + (List.getD q0 (Int.toNat t5) 0 % 100000000 + t4) / 100000000) (t5 + 1) (List.take n3 lr0 ++ List.take 1 [(List.getD q0 (Int.toNat t5) 0 % 100000000 + t4) % 100000000])), ((decide (t5 < (↑(List.length q0) : Int)) = true) :: (decide (0 ≤ t5) = true) :: (decide (t5 < (↑(List.length q0) : Int)) = true) :: (decide (Int.toNat t5 < List.length q0) = true) :: (pFloored (List.getD q0 (Int.toNat t5) 0)) :: (inR IntKind.i64 (List.getD q0 (Int.toNat t5) 0 % 100000000 + t4) = true) :: (pFloored (List.getD q0 (Int.toNat t5) 0 % 100000000 + t4)) :: (decide ((n3 + 1) * 8 ≤ 140737488355328) = true) :: (decide (n3 + 1 ≤ 4611686018427387904) = true) :: (decide (n3 ≤ List.length lr0) = true) :: (decide (List.length (List.take 1 [(List.getD q0 (Int.toNat t5) 0 % 100000000 + t4) % 100000000]) = 1) = true) :: (inR IntKind.i64 (List.getD q0 (Int.toNat t5) 0 / 100000000 + (List.getD q0 (Int.toNat t5) 0 % 100000000 + t4) / 100000000) = true) :: (inR IntKind.i64 (t5 + 1) = true) :: [])) by kernel_rfl) (AllC.cons (decide_eq_true h1) (AllC.cons (decide_eq_true h2) (AllC.cons (decide_eq_true h1) (AllC.cons (decide_eq_true h3) (AllC.cons (h4) (AllC.cons (inR64.2 h5) (AllC.cons (h6) (AllC.cons (decide_eq_true h7) (AllC.cons (decide_eq_true h8) (AllC.cons (decide_eq_true h9) (AllC.cons (decide_eq_true rfl) (AllC.cons (inR64.2 h10) (AllC.cons (inR64.2 h11) AllC.nil)))))))))))))) k
theorem rn_L0_1_1 (q0 : List Int) (n3 : Nat) (t4 : Int) (t5 : Int) (lr0 : List Int) (h1 : ¬ (t5 < (↑(List.length q0) : Int))) : rn_L0 (rn_L0_1 q0 n3 t4 t5 lr0) (Ex.exit 0, (rn_L0_E1 q0 n3 t4 t5 lr0)) := Loops.fin (LS.of okF2 (show rndA (mkCfg Tryz.prog ctrF2 bw) 60 (lpOf Tryz.prog 68 0) 0 [0] [0, 3, 4, 5] [] (rn_L0_1 q0 n3 t4 t5 lr0) [false] [] = some (Ex.exit 0, (rn_L0_E1 q0 n3 t4 t5 lr0), ((decide (t5 < (↑(List.length q0) : Int)) = false) :: [])) by kernel_rfl) (AllC.cons (decide_eq_false h1) AllC.nil)) (fun h => nomatch h)
abbrev rn_L1 (s : St) (r : Ex × St) : Prop := Loops 0 Tryz.prog (lpOf Tryz.prog 68 1) s r
abbrev rn_L1_0 : St := ⟨sp 92 [(3, aN), (4, aI 0)], [], []⟩
abbrev rn_L1_E0 : St := ⟨sp 92 [(3, aN), (4, aI 0)], [], []⟩
theorem rn_L1_0_0 : rn_L1 rn_L1_0 (Ex.exit 2, rn_L1_E0) := Loops.fin (LS.of okF2 (show rndA (mkCfg Tryz.prog ctrF2 bw) 60 (lpOf Tryz.prog 68 1) 0 [] [3, 4] [] rn_L1_0 [false] [] = some (Ex.exit 2, rn_L1_E0, ((false = false) :: [])) by kernel_rfl) (AllC.cons (rfl) AllC.nil)) (fun h => nomatch h)
theorem rn_0 (x : List Int) (hL1 : rn_L0 (rn_L0_0 x) (Ex.exit 0, (rn_L0_E0 x))) (hL2 : rn_L1 rn_L1_0 (Ex.exit 2, rn_L1_E0)) (h3 : pTr []) : FC Tryz.prog 68 [.sq x] (AV.sq []) := fc_fun okF2 (show funA (mkCfg Tryz.prog ctrF2 bw) 60 68 [.sq x] [true] [some (viaL Tryz.prog (lpOf Tryz.prog 68 0) [] [0, 3, 4, 5] [] (rn_L0_0 x) (Ex.exit 0, (rn_L0_E0 x))), some (viaL Tryz.prog (lpOf Tryz.prog 68 1) [] [3, 4] [] rn_L1_0 (Ex.exit 2, rn_L1_E0))] = some (AV.sq [], (viaC Tryz.prog (lpOf Tryz.prog 68 0) [0, 3, 4, 5] [] (rn_L0_0 x) 0 (Ex.exit 0, (rn_L0_E0 x)) (viaC Tryz.prog (lpOf Tryz.prog 68 1) [3, 4] [] rn_L1_0 0 (Ex.exit 2, rn_L1_E0) (ttC 1 ((pTr []) :: []))))) by kernel_rfl) (AllC.via hL1 (AllC.via hL2 (AllC.tt 1 (AllC.cons (h3) AllC.nil))))
abbrev rn_L2 (s : St) (r : Ex × St) : Prop := Loops 1 Tryz.prog (lpOf Tryz.prog 68 1) s r
abbrev rn_L2_0 (n3_1 : Nat) (t4_1 : Int) (lr0_1 : List Int) : St := ⟨sp 92 [(3, AV.own 0 0 n3_1 1), (4, aI t4_1)], [Row.ints lr0_1 true], [0]⟩
abbrev rn_L2_1 (n3_1 : Nat) (t4_1 : Int) (lr0_1 : List Int) (n3_2 : Nat) (t4_2 : Int) (lr1 : List Int) : St := ⟨sp 92 [(3, AV.own 1 0 n3_2 1), (4, aI t4_2)], [Row.dead, Row.ints lr1 true], [0]⟩
abbrev rn_L2_E0 (n3_1 : Nat) (t4_1 : Int) (lr0_1 : List Int) : St := ⟨sp 92 [(3, AV.own 0 0 n3_1 1), (4, aI t4_1)], [Row.ints lr0_1 true], [0]⟩
abbrev rn_L2_E1 (n3_1 : Nat) (t4_1 : Int) (lr0_1 : List Int) (n3_2 : Nat) (t4_2 : Int) (lr1 : List Int) : St := ⟨sp 92 [(3, AV.own 1 0 n3_2 1), (4, aI t4_2)], [Row.dead, Row.ints lr1 true], [0]⟩
theorem rn_L2_0_0 (n3_1 : Nat) (t4_1 : Int) (lr0_1 : List Int) (h1 : t4_1 ≠ 0) (h2 : t4_1 ≠ -1) (h3 : pFloored t4_1) (h4 : (n3_1 + 1) * 8 ≤ 140737488355328) (h5 : n3_1 + 1 ≤ 4611686018427387904) (h6 : n3_1 ≤ List.length lr0_1) {r : Ex × St} (k : rn_L2 (rn_L2_1 n3_1 t4_1 lr0_1 (n3_1 + 1) (t4_1 / 100000000) (List.take n3_1 lr0_1 ++ List.take 1 [t4_1 % 100000000])) r) : rn_L2 (rn_L2_0 n3_1 t4_1 lr0_1) r := Loops.go (LS.of okF2 (show rndA (mkCfg Tryz.prog ctrF2 bw) 60 (lpOf Tryz.prog 68 1) 1 [2] [3, 4] [0] (rn_L2_0 n3_1 t4_1 lr0_1) [true, true] [] = some (Ex.normal, (rn_L2_1 n3_1 t4_1 lr0_1 (n3_1 + 1) (t4_1 / 100000000) (List.take n3_1 lr0_1 ++ List.take 1 [t4_1 % 100000000])), (((t4_1 != 0) = true) :: ((t4_1 != -1) = true) :: (pFloored t4_1) :: (decide ((n3_1 + 1) * 8 ≤ 140737488355328) = true) :: (decide (n3_1 + 1 ≤ 4611686018427387904) = true) :: (decide (n3_1 ≤ List.length lr0_1) = true) :: (decide (List.length (List.take 1 [t4_1 % 100000000]) = 1) = true) :: [])) by kernel_rfl) (AllC.cons (bne_iff_ne.2 h1) (AllC.cons (bne_iff_ne.2 h2) (AllC.cons (h3) (AllC.cons (decide_eq_true h4) (AllC.cons (decide_eq_true h5) (AllC.cons (decide_eq_true h6) (AllC.cons (decide_eq_true rfl) AllC.nil)))))))) k
theorem rn_L2_0_1 (n3_1 : Nat) (t4_1 : Int) (lr0_1 : List Int) (h1 : t4_1 ≠ 0) (h2 : t4_1 = -1) : rn_L2 (rn_L2_0 n3_1 t4_1 lr0_1) (Ex.exit 2, (rn_L2_E0 n3_1 t4_1 lr0_1)) := Loops.fin (LS.of okF2 (show rndA (mkCfg Tryz.prog ctrF2 bw) 60 (lpOf Tryz.prog 68 1) 1 [] [3, 4] [0] (rn_L2_0 n3_1 t4_1 lr0_1) [true, false] [] = some (Ex.exit 2, (rn_L2_E0 n3_1 t4_1 lr0_1), (((t4_1 != 0) = true) :: ((t4_1 != -1) = false) :: [])) by kernel_rfl) (AllC.cons (bne_iff_ne.2 h1) (AllC.cons (bne_eq_false_iff_eq.2 h2) AllC.nil))) (fun h => nomatch h)
theorem rn_L2_0_2 (n3_1 : Nat) (t4_1 : Int) (lr0_1 : List Int) (h1 : t4_1 = 0) : rn_L2 (rn_L2_0 n3_1 t4_1 lr0_1) (Ex.exit 2, (rn_L2_E0 n3_1 t4_1 lr0_1)) := Loops.fin (LS.of okF2 (show rndA (mkCfg Tryz.prog ctrF2 bw) 60 (lpOf Tryz.prog 68 1) 1 [] [3, 4] [0] (rn_L2_0 n3_1 t4_1 lr0_1) [false] [] = some (Ex.exit 2, (rn_L2_E0 n3_1 t4_1 lr0_1), (((t4_1 != 0) = false) :: [])) by kernel_rfl) (AllC.cons (bne_eq_false_iff_eq.2 h1) AllC.nil)) (fun h => nomatch h)
theorem rn_L2_1_0 (n3_1 : Nat) (t4_1 : Int) (lr0_1 : List Int) (n3_2 : Nat) (t4_2 : Int) (lr1 : List Int) (h1 : t4_2 ≠ 0) (h2 : t4_2 ≠ -1) (h3 : pFloored t4_2) (h4 : (n3_2 + 1) * 8 ≤ 140737488355328) (h5 : n3_2 + 1 ≤ 4611686018427387904) (h6 : n3_2 ≤ List.length lr1) {r : Ex × St} (k : rn_L2 (rn_L2_1 n3_1 t4_1 lr0_1 (n3_2 + 1) (t4_2 / 100000000) (List.take n3_2 lr1 ++ List.take 1 [t4_2 % 100000000])) r) : rn_L2 (rn_L2_1 n3_1 t4_1 lr0_1 n3_2 t4_2 lr1) r := Loops.go (LS.of okF2 (show rndA (mkCfg Tryz.prog ctrF2 bw) 60 (lpOf Tryz.prog 68 1) 1 [3] [3, 4] [0] (rn_L2_1 n3_1 t4_1 lr0_1 n3_2 t4_2 lr1) [true, true] [] = some (Ex.normal, (rn_L2_1 n3_1 t4_1 lr0_1 (n3_2 + 1) (t4_2 / 100000000) (List.take n3_2 lr1 ++ List.take 1 [t4_2 % 100000000])), (((t4_2 != 0) = true) :: ((t4_2 != -1) = true) :: (pFloored t4_2) :: (decide ((n3_2 + 1) * 8 ≤ 140737488355328) = true) :: (decide (n3_2 + 1 ≤ 4611686018427387904) = true) :: (decide (n3_2 ≤ List.length lr1) = true) :: (decide (List.length (List.take 1 [t4_2 % 100000000]) = 1) = true) :: [])) by kernel_rfl) (AllC.cons (bne_iff_ne.2 h1) (AllC.cons (bne_iff_ne.2 h2) (AllC.cons (h3) (AllC.cons (decide_eq_true h4) (AllC.cons (decide_eq_true h5) (AllC.cons (decide_eq_true h6) (AllC.cons (decide_eq_true rfl) AllC.nil)))))))) k
theorem rn_L2_1_1 (n3_1 : Nat) (t4_1 : Int) (lr0_1 : List Int) (n3_2 : Nat) (t4_2 : Int) (lr1 : List Int) (h1 : t4_2 ≠ 0) (h2 : t4_2 = -1) : rn_L2 (rn_L2_1 n3_1 t4_1 lr0_1 n3_2 t4_2 lr1) (Ex.exit 2, (rn_L2_E1 n3_1 t4_1 lr0_1 n3_2 t4_2 lr1)) := Loops.fin (LS.of okF2 (show rndA (mkCfg Tryz.prog ctrF2 bw) 60 (lpOf Tryz.prog 68 1) 1 [1] [3, 4] [0] (rn_L2_1 n3_1 t4_1 lr0_1 n3_2 t4_2 lr1) [true, false] [] = some (Ex.exit 2, (rn_L2_E1 n3_1 t4_1 lr0_1 n3_2 t4_2 lr1), (((t4_2 != 0) = true) :: ((t4_2 != -1) = false) :: [])) by kernel_rfl) (AllC.cons (bne_iff_ne.2 h1) (AllC.cons (bne_eq_false_iff_eq.2 h2) AllC.nil))) (fun h => nomatch h)
theorem rn_L2_1_2 (n3_1 : Nat) (t4_1 : Int) (lr0_1 : List Int) (n3_2 : Nat) (t4_2 : Int) (lr1 : List Int) (h1 : t4_2 = 0) : rn_L2 (rn_L2_1 n3_1 t4_1 lr0_1 n3_2 t4_2 lr1) (Ex.exit 2, (rn_L2_E1 n3_1 t4_1 lr0_1 n3_2 t4_2 lr1)) := Loops.fin (LS.of okF2 (show rndA (mkCfg Tryz.prog ctrF2 bw) 60 (lpOf Tryz.prog 68 1) 1 [1] [3, 4] [0] (rn_L2_1 n3_1 t4_1 lr0_1 n3_2 t4_2 lr1) [false] [] = some (Ex.exit 2, (rn_L2_E1 n3_1 t4_1 lr0_1 n3_2 t4_2 lr1), (((t4_2 != 0) = false) :: [])) by kernel_rfl) (AllC.cons (bne_eq_false_iff_eq.2 h1) AllC.nil)) (fun h => nomatch h)
theorem rn_1 (x : List Int) (n3 : Nat) (t4 : Int) (t5 : Int) (lr0 : List Int) (hL1 : rn_L0 (rn_L0_0 x) (Ex.exit 0, (rn_L0_E1 x n3 t4 t5 lr0))) (hL2 : rn_L2 (rn_L2_0 n3 t4 lr0) (Ex.exit 2, (rn_L2_E0 n3 t4 lr0))) (h3 : t4 = 0) (h4 : n3 ≤ List.length lr0) (h5 : pTr (List.take n3 lr0)) : FC Tryz.prog 68 [.sq x] (AV.sq (trm (List.take n3 lr0))) := fc_fun okF2 (show funA (mkCfg Tryz.prog ctrF2 bw) 60 68 [.sq x] [true] [some (viaL Tryz.prog (lpOf Tryz.prog 68 0) [] [0, 3, 4, 5] [] (rn_L0_0 x) (Ex.exit 0, (rn_L0_E1 x n3 t4 t5 lr0))), some (viaL Tryz.prog (lpOf Tryz.prog 68 1) [] [3, 4] [0] (rn_L2_0 n3 t4 lr0) (Ex.exit 2, (rn_L2_E0 n3 t4 lr0)))] = some (AV.sq (trm (List.take n3 lr0)), (viaC Tryz.prog (lpOf Tryz.prog 68 0) [0, 3, 4, 5] [] (rn_L0_0 x) 0 (Ex.exit 0, (rn_L0_E1 x n3 t4 t5 lr0)) (viaC Tryz.prog (lpOf Tryz.prog 68 1) [3, 4] [0] (rn_L2_0 n3 t4 lr0) 1 (Ex.exit 2, (rn_L2_E0 n3 t4 lr0)) (((t4 == 0) = true) :: (n3 ≤ List.length lr0) :: (pTr (List.take n3 lr0)) :: [])))) by kernel_rfl) (AllC.via hL1 (AllC.via hL2 (AllC.cons (beq_iff_eq.2 h3) (AllC.cons (h4) (AllC.cons (h5) AllC.nil)))))
abbrev rn_L3 (s : St) (r : Ex × St) : Prop := Loops 1 Tryz.prog (lpOf Tryz.prog 68 2) s r
abbrev rn_L3_0 (n3_1 : Nat) (lr0_1 : List Int) : St := ⟨sp 92 [(3, AV.own 0 0 n3_1 1), (12, aN), (13, aI 0), (14, aI 0)], [Row.ints lr0_1 true], [0]⟩
abbrev rn_L3_1 (n3_1 : Nat) (lr0_1 : List Int) (n12 : Nat) (t13 : Int) (t14 : Int) (lr1 : List Int) : St := ⟨sp 92 [(3, AV.own 0 0 n3_1 1), (12, AV.own 1 0 n12 1), (13, aI t13), (14, aI t14)], [Row.ints lr0_1 true, Row.ints lr1 true], [0]⟩
abbrev rn_L3_E0 (n3_1 : Nat) (lr0_1 : List Int) : St := ⟨sp 92 [(3, AV.own 0 0 n3_1 1), (12, aN), (13, aI 0), (14, aI 0)], [Row.ints lr0_1 true], [0]⟩
abbrev rn_L3_E1 (n3_1 : Nat) (lr0_1 : List Int) (n12 : Nat) (t13 : Int) (t14 : Int) (lr1 : List Int) : St := ⟨sp 92 [(3, AV.own 0 0 n3_1 1), (12, AV.own 1 0 n12 1), (13, aI t13), (14, aI t14)], [Row.ints lr0_1 true, Row.ints lr1 true], [0]⟩
theorem rn_L3_0_0 (n3_1 : Nat) (lr0_1 : List Int) (h1 : 0 < (↑n3_1 : Int)) (h2 : 0 < List.length lr0_1) (h3 : -9223372036854775808 ≤ 0 - List.getD lr0_1 0 0 ∧ 0 - List.getD lr0_1 0 0 ≤ 9223372036854775807) (h4 : -9223372036854775808 ≤ 0 - List.getD lr0_1 0 0 - 0 ∧ 0 - List.getD lr0_1 0 0 - 0 ≤ 9223372036854775807) (h5 : 0 - List.getD lr0_1 0 0 - 0 < 0) (h6 : -9223372036854775808 ≤ 0 - List.getD lr0_1 0 0 - 0 + 100000000 ∧ 0 - List.getD lr0_1 0 0 - 0 + 100000000 ≤ 9223372036854775807) {r : Ex × St} (k : rn_L3 (rn_L3_1 n3_1 lr0_1 (1) (1) (1) ([0 - List.getD lr0_1 0 0 - 0 + 100000000])) r) : rn_L3 (rn_L3_0 n3_1 lr0_1) r := Loops.go (LS.of okF2 (show rndA (mkCfg Tryz.prog ctrF2 bw) 60 (lpOf Tryz.prog 68 2) 1 [2] [3, 12, 13, 14] [0] (rn_L3_0 n3_1 lr0_1) [true, true] [] = some (Ex.normal, (rn_L3_1 n3_1 lr0_1 (1) (1) (1) ([0 - List.getD lr0_1 0 0 - 0 + 100000000])), ((decide (0 < (↑n3_1 : Int)) = true) :: ttC 1 ((decide (0 < (↑n3_1 : Int)) = true) :: (decide (0 < List.length lr0_1) = true) :: (inR IntKind.i64 (0 - List.getD lr0_1 0 0) = true) :: (inR IntKind.i64 (0 - List.getD lr0_1 0 0 - 0) = true) :: (decide (0 - List.getD lr0_1 0 0 - 0 < 0) = true) :: (inR IntKind.i64 (0 - List.getD lr0_1 0 0 - 0 + 100000000) = true) :: ttC 3 ((decide (List.length (List.take 1 [0 - List.getD lr0_1 0 0 - 0 + 100000000]) = 1) = true) :: ttC 1 ([]))))) by kernel_rfl) (AllC.cons (decide_eq_true h1) (AllC.tt 1 (AllC.cons (decide_eq_true h1) (AllC.cons (decide_eq_true h2) (AllC.cons (inR64.2 h3) (AllC.cons (inR64.2 h4) (AllC.cons (decide_eq_true h5) (AllC.cons (inR64.2 h6) (AllC.tt 3 (AllC.cons (decide_eq_true rfl) (AllC.tt 1 AllC.nil)))))))))))) k
theorem rn_L3_0_1 (n3_1 : Nat) (lr0_1 : List Int) (h1 : 0 < (↑n3_1 : Int)) (h2 : 0 < List.length lr0_1) (h3 : -9223372036854775808 ≤ 0 - List.getD lr0_1 0 0 ∧ 0 - List.getD lr0_1 0 0 ≤ 9223372036854775807) (h4 : -9223372036854775808 ≤ 0 - List.getD lr0_1 0 0 - 0 ∧ 0 - List.getD lr0_1 0 0 - 0 ≤ 9223372036854775807) (h5 : ¬ (0 - List.getD lr0_1 0 0 - 0 < 0)) {r : Ex × St} (k : rn_L3 (rn_L3_1 n3_1 lr0_1 (1) (0) (1) ([0 - List.getD lr0_1 0 0 - 0])) r) : rn_L3 (rn_L3_0 n3_1 lr0_1) r := Loops.go (LS.of okF2 (show rndA (mkCfg Tryz.prog ctrF2 bw) 60 (lpOf Tryz.prog 68 2) 1 [2] [3, 12, 13, 14] [0] (rn_L3_0 n3_1 lr0_1) [true, false] [] = some (Ex.normal, (rn_L3_1 n3_1 lr0_1 (1) (0) (1) ([0 - List.getD lr0_1 0 0 - 0])), ((decide (0 < (↑n3_1 : Int)) = true) :: ttC 1 ((decide (0 < (↑n3_1 : Int)) = true) :: (decide (0 < List.length lr0_1) = true) :: (inR IntKind.i64 (0 - List.getD lr0_1 0 0) = true) :: (inR IntKind.i64 (0 - List.getD lr0_1 0 0 - 0) = true) :: (decide (0 - List.getD lr0_1 0 0 - 0 < 0) = false) :: ttC 3 ((decide (List.length (List.take 1 [0 - List.getD lr0_1 0 0 - 0]) = 1) = true) :: ttC 1 ([]))))) by kernel_rfl) (AllC.cons (decide_eq_true h1) (AllC.tt 1 (AllC.cons (decide_eq_true h1) (AllC.cons (decide_eq_true h2) (AllC.cons (inR64.2 h3) (AllC.cons (inR64.2 h4) (AllC.cons (decide_eq_false h5) (AllC.tt 3 (AllC.cons (decide_eq_true rfl) (AllC.tt 1 AllC.nil))))))))))) k
theorem rn_L3_0_2 (n3_1 : Nat) (lr0_1 : List Int) (h1 : ¬ (0 < (↑n3_1 : Int))) : rn_L3 (rn_L3_0 n3_1 lr0_1) (Ex.exit 4, (rn_L3_E0 n3_1 lr0_1)) := Loops.fin (LS.of okF2 (show rndA (mkCfg Tryz.prog ctrF2 bw) 60 (lpOf Tryz.prog 68 2) 1 [] [3, 12, 13, 14] [0] (rn_L3_0 n3_1 lr0_1) [false] [] = some (Ex.exit 4, (rn_L3_E0 n3_1 lr0_1), ((decide (0 < (↑n3_1 : Int)) = false) :: [])) by kernel_rfl) (AllC.cons (decide_eq_false h1) AllC.nil)) (fun h => nomatch h)
theorem rn_L3_1_0 (n3_1 : Nat) (lr0_1 : List Int) (n12 : Nat) (t13 : Int) (t14 : Int) (lr1 : List Int) (h1 : t14 < (↑n3_1 : Int)) (h2 : 0 ≤ t14) (h3 : 0 + Int.toNat t14 * 1 < List.length lr0_1) (h4 : -9223372036854775808 ≤ 0 - List.getD lr0_1 (0 + Int.toNat t14 * 1) 0 ∧ 0 - List.getD lr0_1 (0 + Int.toNat t14 * 1) 0 ≤ 9223372036854775807) (h5 : -9223372036854775808 ≤ 0 - List.getD lr0_1 (0 + Int.toNat t14 * 1) 0 - t13 ∧ 0 - List.getD lr0_1 (0 + Int.toNat t14 * 1) 0 - t13 ≤ 9223372036854775807) (h6 : 0 - List.getD lr0_1 (0 + Int.toNat t14 * 1) 0 - t13 < 0) (h7 : -9223372036854775808 ≤ 0 - List.getD lr0_1 (0 + Int.toNat t14 * 1) 0 - t13 + 100000000 ∧ 0 - List.getD lr0_1 (0 + Int.toNat t14 * 1) 0 - t13 + 100000000 ≤ 9223372036854775807) (h8 : (n12 + 1) * 8 ≤ 140737488355328) (h9 : n12 + 1 ≤ 4611686018427387904) (h10 : n12 ≤ List.length lr1) (h11 : -9223372036854775808 ≤ t14 + 1 ∧ t14 + 1 ≤ 9223372036854775807) {r : Ex × St} (k : rn_L3 (rn_L3_1 n3_1 lr0_1 (n12 + 1) (1) (t14 + 1) (List.take n12 lr1 ++ List.take 1 [0 - List.getD lr0_1 (0 + Int.toNat t14 * 1) 0 - t13 + 100000000])) r) : rn_L3 (rn_L3_1 n3_1 lr0_1 n12 t13 t14 lr1) r := Loops.go (LS.of okF2 (show rndA (mkCfg Tryz.prog ctrF2 bw) 60 (lpOf Tryz.prog 68 2) 1 [3] [3, 12, 13, 14] [0] (rn_L3_1 n3_1 lr0_1 n12 t13 t14 lr1) [true, true] [] = some (Ex.normal, (rn_L3_1 n3_1 lr0_1 (n12 + 1) (1) (t14 + 1) (List.take n12 lr1 ++ List.take 1 [0 - List.getD lr0_1 (0 + Int.toNat t14 * 1) 0 - t13 + 100000000])), ((decide (t14 < (↑n3_1 : Int)) = true) :: (decide (0 ≤ t14) = true) :: (decide (t14 < (↑n3_1 : Int)) = true) :: (decide (0 + Int.toNat t14 * 1 < List.length lr0_1) = true) :: (inR IntKind.i64 (0 - List.getD lr0_1 (0 + Int.toNat t14 * 1) 0) = true) :: (inR IntKind.i64 (0 - List.getD lr0_1 (0 + Int.toNat t14 * 1) 0 - t13) = true) :: (decide (0 - List.getD lr0_1 (0 + Int.toNat t14 * 1) 0 - t13 < 0) = true) :: (inR IntKind.i64 (0 - List.getD lr0_1 (0 + Int.toNat t14 * 1) 0 - t13 + 100000000) = true) :: (decide ((n12 + 1) * 8 ≤ 140737488355328) = true) :: (decide (n12 + 1 ≤ 4611686018427387904) = true) :: (decide (n12 ≤ List.length lr1) = true) :: (decide (List.length (List.take 1 [0 - List.getD lr0_1 (0 + Int.toNat t14 * 1) 0 - t13 + 100000000]) = 1) = true) :: (inR IntKind.i64 (t14 + 1) = true) :: [])) by kernel_rfl) (AllC.cons (decide_eq_true h1) (AllC.cons (decide_eq_true h2) (AllC.cons (decide_eq_true h1) (AllC.cons (decide_eq_true h3) (AllC.cons (inR64.2 h4) (AllC.cons (inR64.2 h5) (AllC.cons (decide_eq_true h6) (AllC.cons (inR64.2 h7) (AllC.cons (decide_eq_true h8) (AllC.cons (decide_eq_true h9) (AllC.cons (decide_eq_true h10) (AllC.cons (decide_eq_true rfl) (AllC.cons (inR64.2 h11) AllC.nil)))))))))))))) k
theorem rn_L3_1_1 (n3_1 : Nat) (lr0_1 : List Int) (n12 : Nat) (t13 : Int) (t14 : Int) (lr1 : List Int) (h1 : t14 < (↑n3_1 : Int)) (h2 : 0 ≤ t14) (h3 : 0 + Int.toNat t14 * 1 < List.length lr0_1) (h4 : -9223372036854775808 ≤ 0 - List.getD lr0_1 (0 + Int.toNat t14 * 1) 0 ∧ 0 - List.getD lr0_1 (0 + Int.toNat t14 * 1) 0 ≤ 9223372036854775807) (h5 : -9223372036854775808 ≤ 0 - List.getD lr0_1 (0 + Int.toNat t14 * 1) 0 - t13 ∧ 0 - List.getD lr0_1 (0 + Int.toNat t14 * 1) 0 - t13 ≤ 9223372036854775807) (h6 : ¬ (0 - List.getD lr0_1 (0 + Int.toNat t14 * 1) 0 - t13 < 0)) (h7 : (n12 + 1) * 8 ≤ 140737488355328) (h8 : n12 + 1 ≤ 4611686018427387904) (h9 : n12 ≤ List.length lr1) (h10 : -9223372036854775808 ≤ t14 + 1 ∧ t14 + 1 ≤ 9223372036854775807) {r : Ex × St} (k : rn_L3 (rn_L3_1 n3_1 lr0_1 (n12 + 1) (0) (t14 + 1) (List.take n12 lr1 ++ List.take 1 [0 - List.getD lr0_1 (0 + Int.toNat t14 * 1) 0 - t13])) r) : rn_L3 (rn_L3_1 n3_1 lr0_1 n12 t13 t14 lr1) r := Loops.go (LS.of okF2 (show rndA (mkCfg Tryz.prog ctrF2 bw) 60 (lpOf Tryz.prog 68 2) 1 [3] [3, 12, 13, 14] [0] (rn_L3_1 n3_1 lr0_1 n12 t13 t14 lr1) [true, false] [] = some (Ex.normal, (rn_L3_1 n3_1 lr0_1 (n12 + 1) (0) (t14 + 1) (List.take n12 lr1 ++ List.take 1 [0 - List.getD lr0_1 (0 + Int.toNat t14 * 1) 0 - t13])), ((decide (t14 < (↑n3_1 : Int)) = true) :: (decide (0 ≤ t14) = true) :: (decide (t14 < (↑n3_1 : Int)) = true) :: (decide (0 + Int.toNat t14 * 1 < List.length lr0_1) = true) :: (inR IntKind.i64 (0 - List.getD lr0_1 (0 + Int.toNat t14 * 1) 0) = true) :: (inR IntKind.i64 (0 - List.getD lr0_1 (0 + Int.toNat t14 * 1) 0 - t13) = true) :: (decide (0 - List.getD lr0_1 (0 + Int.toNat t14 * 1) 0 - t13 < 0) = false) :: (decide ((n12 + 1) * 8 ≤ 140737488355328) = true) :: (decide (n12 + 1 ≤ 4611686018427387904) = true) :: (decide (n12 ≤ List.length lr1) = true) :: (decide (List.length (List.take 1 [0 - List.getD lr0_1 (0 + Int.toNat t14 * 1) 0 - t13]) = 1) = true) :: (inR IntKind.i64 (t14 + 1) = true) :: [])) by kernel_rfl) (AllC.cons (decide_eq_true h1) (AllC.cons (decide_eq_true h2) (AllC.cons (decide_eq_true h1) (AllC.cons (decide_eq_true h3) (AllC.cons (inR64.2 h4) (AllC.cons (inR64.2 h5) (AllC.cons (decide_eq_false h6) (AllC.cons (decide_eq_true h7) (AllC.cons (decide_eq_true h8) (AllC.cons (decide_eq_true h9) (AllC.cons (decide_eq_true rfl) (AllC.cons (inR64.2 h10) AllC.nil))))))))))))) k
theorem rn_L3_1_2 (n3_1 : Nat) (lr0_1 : List Int) (n12 : Nat) (t13 : Int) (t14 : Int) (lr1 : List Int) (h1 : ¬ (t14 < (↑n3_1 : Int))) : rn_L3 (rn_L3_1 n3_1 lr0_1 n12 t13 t14 lr1) (Ex.exit 4, (rn_L3_E1 n3_1 lr0_1 n12 t13 t14 lr1)) := Loops.fin (LS.of okF2 (show rndA (mkCfg Tryz.prog ctrF2 bw) 60 (lpOf Tryz.prog 68 2) 1 [1] [3, 12, 13, 14] [0] (rn_L3_1 n3_1 lr0_1 n12 t13 t14 lr1) [false] [] = some (Ex.exit 4, (rn_L3_E1 n3_1 lr0_1 n12 t13 t14 lr1), ((decide (t14 < (↑n3_1 : Int)) = false) :: [])) by kernel_rfl) (AllC.cons (decide_eq_false h1) AllC.nil)) (fun h => nomatch h)
theorem rn_2 (x : List Int) (n3 : Nat) (t4 : Int) (t5 : Int) (lr0 : List Int) (hL1 : rn_L0 (rn_L0_0 x) (Ex.exit 0, (rn_L0_E1 x n3 t4 t5 lr0))) (hL2 : rn_L2 (rn_L2_0 n3 t4 lr0) (Ex.exit 2, (rn_L2_E0 n3 t4 lr0))) (h3 : t4 ≠ 0) (hL3 : rn_L3 (rn_L3_0 n3 lr0) (Ex.exit 4, (rn_L3_E0 n3 lr0))) (h5 : 1 ≤ 1) (h6 : pSg (List.take 1 (List.take 1 [1]))) : FC Tryz.prog 68 [.sq x] (AV.sq [-1]) := fc_fun okF2 (show funA (mkCfg Tryz.prog ctrF2 bw) 60 68 [.sq x] [false, true] [some (viaL Tryz.prog (lpOf Tryz.prog 68 0) [] [0, 3, 4, 5] [] (rn_L0_0 x) (Ex.exit 0, (rn_L0_E1 x n3 t4 t5 lr0))), some (viaL Tryz.prog (lpOf Tryz.prog 68 1) [] [3, 4] [0] (rn_L2_0 n3 t4 lr0) (Ex.exit 2, (rn_L2_E0 n3 t4 lr0))), some (viaL Tryz.prog (lpOf Tryz.prog 68 2) [] [3, 12, 13, 14] [0] (rn_L3_0 n3 lr0) (Ex.exit 4, (rn_L3_E0 n3 lr0)))] = some (AV.sq [-1], (viaC Tryz.prog (lpOf Tryz.prog 68 0) [0, 3, 4, 5] [] (rn_L0_0 x) 0 (Ex.exit 0, (rn_L0_E1 x n3 t4 t5 lr0)) (viaC Tryz.prog (lpOf Tryz.prog 68 1) [3, 4] [0] (rn_L2_0 n3 t4 lr0) 1 (Ex.exit 2, (rn_L2_E0 n3 t4 lr0)) (((t4 == 0) = false) :: viaC Tryz.prog (lpOf Tryz.prog 68 2) [3, 12, 13, 14] [0] (rn_L3_0 n3 lr0) 1 (Ex.exit 4, (rn_L3_E0 n3 lr0)) (ttC 5 ((1 ≤ 1) :: (pSg (List.take 1 (List.take 1 [1]))) :: [])))))) by kernel_rfl) (AllC.via hL1 (AllC.via hL2 (AllC.cons (beq_false_of_ne h3) (AllC.via hL3 (AllC.tt 5 (AllC.cons (h5) (AllC.cons (h6) AllC.nil)))))))
theorem rn_3 (x : List Int) (n3 : Nat) (t4 : Int) (t5 : Int) (lr0 : List Int) (n12 : Nat) (t13 : Int) (t14 : Int) (lr1 : List Int) (hL1 : rn_L0 (rn_L0_0 x) (Ex.exit 0, (rn_L0_E1 x n3 t4 t5 lr0))) (hL2 : rn_L2 (rn_L2_0 n3 t4 lr0) (Ex.exit 2, (rn_L2_E0 n3 t4 lr0))) (h3 : t4 ≠ 0) (hL3 : rn_L3 (rn_L3_0 n3 lr0) (Ex.exit 4, (rn_L3_E1 n3 lr0 n12 t13 t14 lr1))) (h5 : t13 = 0) (h6 : (n12 + 1) * 8 ≤ 140737488355328) (h7 : n12 + 1 ≤ 4611686018427387904) (h8 : n12 ≤ List.length lr1) (h9 : n12 + 1 ≤ List.length (List.take n12 lr1 ++ List.take 1 [1])) (h10 : pSg (List.take (n12 + 1) (List.take n12 lr1 ++ List.take 1 [1]))) : FC Tryz.prog 68 [.sq x] (AV.sq (sgnd true (List.take (n12 + 1) (List.take n12 lr1 ++ List.take 1 [1])))) := fc_fun okF2 (show funA (mkCfg Tryz.prog ctrF2 bw) 60 68 [.sq x] [false, true] [some (viaL Tryz.prog (lpOf Tryz.prog 68 0) [] [0, 3, 4, 5] [] (rn_L0_0 x) (Ex.exit 0, (rn_L0_E1 x n3 t4 t5 lr0))), some (viaL Tryz.prog (lpOf Tryz.prog 68 1) [] [3, 4] [0] (rn_L2_0 n3 t4 lr0) (Ex.exit 2, (rn_L2_E0 n3 t4 lr0))), some (viaL Tryz.prog (lpOf Tryz.prog 68 2) [] [3, 12, 13, 14] [0] (rn_L3_0 n3 lr0) (Ex.exit 4, (rn_L3_E1 n3 lr0 n12 t13 t14 lr1)))] = some (AV.sq (sgnd true (List.take (n12 + 1) (List.take n12 lr1 ++ List.take 1 [1]))), (viaC Tryz.prog (lpOf Tryz.prog 68 0) [0, 3, 4, 5] [] (rn_L0_0 x) 0 (Ex.exit 0, (rn_L0_E1 x n3 t4 t5 lr0)) (viaC Tryz.prog (lpOf Tryz.prog 68 1) [3, 4] [0] (rn_L2_0 n3 t4 lr0) 1 (Ex.exit 2, (rn_L2_E0 n3 t4 lr0)) (((t4 == 0) = false) :: viaC Tryz.prog (lpOf Tryz.prog 68 2) [3, 12, 13, 14] [0] (rn_L3_0 n3 lr0) 1 (Ex.exit 4, (rn_L3_E1 n3 lr0 n12 t13 t14 lr1)) (((t13 == 0) = true) :: (decide ((n12 + 1) * 8 ≤ 140737488355328) = true) :: (decide (n12 + 1 ≤ 4611686018427387904) = true) :: (decide (n12 ≤ List.length lr1) = true) :: ttC 1 ((n12 + 1 ≤ List.length (List.take n12 lr1 ++ List.take 1 [1])) :: (pSg (List.take (n12 + 1) (List.take n12 lr1 ++ List.take 1 [1]))) :: [])))))) by kernel_rfl) (AllC.via hL1 (AllC.via hL2 (AllC.cons (beq_false_of_ne h3) (AllC.via hL3 (AllC.cons (beq_iff_eq.2 h5) (AllC.cons (decide_eq_true h6) (AllC.cons (decide_eq_true h7) (AllC.cons (decide_eq_true h8) (AllC.tt 1 (AllC.cons (h9) (AllC.cons (h10) AllC.nil)))))))))))
theorem rn_4 (x : List Int) (n3 : Nat) (t4 : Int) (t5 : Int) (lr0 : List Int) (n12 : Nat) (t13 : Int) (t14 : Int) (lr1 : List Int) (hL1 : rn_L0 (rn_L0_0 x) (Ex.exit 0, (rn_L0_E1 x n3 t4 t5 lr0))) (hL2 : rn_L2 (rn_L2_0 n3 t4 lr0) (Ex.exit 2, (rn_L2_E0 n3 t4 lr0))) (h3 : t4 ≠ 0) (hL3 : rn_L3 (rn_L3_0 n3 lr0) (Ex.exit 4, (rn_L3_E1 n3 lr0 n12 t13 t14 lr1))) (h5 : t13 ≠ 0) (h6 : n12 ≤ List.length lr1) (h7 : pSg (List.take n12 lr1)) : FC Tryz.prog 68 [.sq x] (AV.sq (sgnd true (List.take n12 lr1))) := fc_fun okF2 (show funA (mkCfg Tryz.prog ctrF2 bw) 60 68 [.sq x] [false, false] [some (viaL Tryz.prog (lpOf Tryz.prog 68 0) [] [0, 3, 4, 5] [] (rn_L0_0 x) (Ex.exit 0, (rn_L0_E1 x n3 t4 t5 lr0))), some (viaL Tryz.prog (lpOf Tryz.prog 68 1) [] [3, 4] [0] (rn_L2_0 n3 t4 lr0) (Ex.exit 2, (rn_L2_E0 n3 t4 lr0))), some (viaL Tryz.prog (lpOf Tryz.prog 68 2) [] [3, 12, 13, 14] [0] (rn_L3_0 n3 lr0) (Ex.exit 4, (rn_L3_E1 n3 lr0 n12 t13 t14 lr1)))] = some (AV.sq (sgnd true (List.take n12 lr1)), (viaC Tryz.prog (lpOf Tryz.prog 68 0) [0, 3, 4, 5] [] (rn_L0_0 x) 0 (Ex.exit 0, (rn_L0_E1 x n3 t4 t5 lr0)) (viaC Tryz.prog (lpOf Tryz.prog 68 1) [3, 4] [0] (rn_L2_0 n3 t4 lr0) 1 (Ex.exit 2, (rn_L2_E0 n3 t4 lr0)) (((t4 == 0) = false) :: viaC Tryz.prog (lpOf Tryz.prog 68 2) [3, 12, 13, 14] [0] (rn_L3_0 n3 lr0) 1 (Ex.exit 4, (rn_L3_E1 n3 lr0 n12 t13 t14 lr1)) (((t13 == 0) = false) :: (n12 ≤ List.length lr1) :: (pSg (List.take n12 lr1)) :: []))))) by kernel_rfl) (AllC.via hL1 (AllC.via hL2 (AllC.cons (beq_false_of_ne h3) (AllC.via hL3 (AllC.cons (beq_false_of_ne h5) (AllC.cons (h6) (AllC.cons (h7) AllC.nil)))))))
theorem rn_5 (x : List Int) (n3 : Nat) (t4 : Int) (t5 : Int) (lr0 : List Int) (n3_1 : Nat) (t4_1 : Int) (lr1 : List Int) (hL1 : rn_L0 (rn_L0_0 x) (Ex.exit 0, (rn_L0_E1 x n3 t4 t5 lr0))) (hL2 : rn_L2 (rn_L2_0 n3 t4 lr0) (Ex.exit 2, (rn_L2_E1 n3 t4 lr0 n3_1 t4_1 lr1))) (h3 : t4_1 = 0) (h4 : n3_1 ≤ List.length lr1) (h5 : pTr (List.take n3_1 lr1)) : FC Tryz.prog 68 [.sq x] (AV.sq (trm (List.take n3_1 lr1))) := fc_fun okF2 (show funA (mkCfg Tryz.prog ctrF2 bw) 60 68 [.sq x] [true] [some (viaL Tryz.prog (lpOf Tryz.prog 68 0) [] [0, 3, 4, 5] [] (rn_L0_0 x) (Ex.exit 0, (rn_L0_E1 x n3 t4 t5 lr0))), some (viaL Tryz.prog (lpOf Tryz.prog 68 1) [] [3, 4] [0] (rn_L2_0 n3 t4 lr0) (Ex.exit 2, (rn_L2_E1 n3 t4 lr0 n3_1 t4_1 lr1)))] = some (AV.sq (trm (List.take n3_1 lr1)), (viaC Tryz.prog (lpOf Tryz.prog 68 0) [0, 3, 4, 5] [] (rn_L0_0 x) 0 (Ex.exit 0, (rn_L0_E1 x n3 t4 t5 lr0)) (viaC Tryz.prog (lpOf Tryz.prog 68 1) [3, 4] [0] (rn_L2_0 n3 t4 lr0) 1 (Ex.exit 2, (rn_L2_E1 n3 t4 lr0 n3_1 t4_1 lr1)) (((t4_1 == 0) = true) :: (n3_1 ≤ List.length lr1) :: (pTr (List.take n3_1 lr1)) :: [])))) by kernel_rfl) (AllC.via hL1 (AllC.via hL2 (AllC.cons (beq_iff_eq.2 h3) (AllC.cons (h4) (AllC.cons (h5) AllC.nil)))))
abbrev rn_L4 (s : St) (r : Ex × St) : Prop := Loops 2 Tryz.prog (lpOf Tryz.prog 68 2) s r
abbrev rn_L4_0 (n3_2 : Nat) (lr1_1 : List Int) : St := ⟨sp 92 [(3, AV.own 1 0 n3_2 1), (12, aN), (13, aI 0), (14, aI 0)], [Row.dead, Row.ints lr1_1 true], [0]⟩
abbrev rn_L4_1 (n3_2 : Nat) (lr1_1 : List Int) (n12 : Nat) (t13 : Int) (t14 : Int) (lr2 : List Int) : St := ⟨sp 92 [(3, AV.own 1 0 n3_2 1), (12, AV.own 2 0 n12 1), (13, aI t13), (14, aI t14)], [Row.dead, Row.ints lr1_1 true, Row.ints lr2 true], [0]⟩
abbrev rn_L4_E0 (n3_2 : Nat) (lr1_1 : List Int) : St := ⟨sp 92 [(3, AV.own 1 0 n3_2 1), (12, aN), (13, aI 0), (14, aI 0)], [Row.dead, Row.ints lr1_1 true], [0]⟩
abbrev rn_L4_E1 (n3_2 : Nat) (lr1_1 : List Int) (n12 : Nat) (t13 : Int) (t14 : Int) (lr2 : List Int) : St := ⟨sp 92 [(3, AV.own 1 0 n3_2 1), (12, AV.own 2 0 n12 1), (13, aI t13), (14, aI t14)], [Row.dead, Row.ints lr1_1 true, Row.ints lr2 true], [0]⟩
theorem rn_L4_0_0 (n3_2 : Nat) (lr1_1 : List Int) (h1 : 0 < (↑n3_2 : Int)) (h2 : 0 < List.length lr1_1) (h3 : -9223372036854775808 ≤ 0 - List.getD lr1_1 0 0 ∧ 0 - List.getD lr1_1 0 0 ≤ 9223372036854775807) (h4 : -9223372036854775808 ≤ 0 - List.getD lr1_1 0 0 - 0 ∧ 0 - List.getD lr1_1 0 0 - 0 ≤ 9223372036854775807) (h5 : 0 - List.getD lr1_1 0 0 - 0 < 0) (h6 : -9223372036854775808 ≤ 0 - List.getD lr1_1 0 0 - 0 + 100000000 ∧ 0 - List.getD lr1_1 0 0 - 0 + 100000000 ≤ 9223372036854775807) {r : Ex × St} (k : rn_L4 (rn_L4_1 n3_2 lr1_1 (1) (1) (1) ([0 - List.getD lr1_1 0 0 - 0 + 100000000])) r) : rn_L4 (rn_L4_0 n3_2 lr1_1) r := Loops.go (LS.of okF2 (show rndA (mkCfg Tryz.prog ctrF2 bw) 60 (lpOf Tryz.prog 68 2) 2 [3] [3, 12, 13, 14] [0] (rn_L4_0 n3_2 lr1_1) [true, true] [] = some (Ex.normal, (rn_L4_1 n3_2 lr1_1 (1) (1) (1) ([0 - List.getD lr1_1 0 0 - 0 + 100000000])), ((decide (0 < (↑n3_2 : Int)) = true) :: ttC 1 ((decide (0 < (↑n3_2 : Int)) = true) :: (decide (0 < List.length lr1_1) = true) :: (inR IntKind.i64 (0 - List.getD lr1_1 0 0) = true) :: (inR IntKind.i64 (0 - List.getD lr1_1 0 0 - 0) = true) :: (decide (0 - List.getD lr1_1 0 0 - 0 < 0) = true) :: (inR IntKind.i64 (0 - List.getD lr1_1 0 0 - 0 + 100000000) = true) :: ttC 3 ((decide (List.length (List.take 1 [0 - List.getD lr1_1 0 0 - 0 + 100000000]) = 1) = true) :: ttC 1 ([]))))) by kernel_rfl) (AllC.cons (decide_eq_true h1) (AllC.tt 1 (AllC.cons (decide_eq_true h1) (AllC.cons (decide_eq_true h2) (AllC.cons (inR64.2 h3) (AllC.cons (inR64.2 h4) (AllC.cons (decide_eq_true h5) (AllC.cons (inR64.2 h6) (AllC.tt 3 (AllC.cons (decide_eq_true rfl) (AllC.tt 1 AllC.nil)))))))))))) k
theorem rn_L4_0_1 (n3_2 : Nat) (lr1_1 : List Int) (h1 : 0 < (↑n3_2 : Int)) (h2 : 0 < List.length lr1_1) (h3 : -9223372036854775808 ≤ 0 - List.getD lr1_1 0 0 ∧ 0 - List.getD lr1_1 0 0 ≤ 9223372036854775807) (h4 : -9223372036854775808 ≤ 0 - List.getD lr1_1 0 0 - 0 ∧ 0 - List.getD lr1_1 0 0 - 0 ≤ 9223372036854775807) (h5 : ¬ (0 - List.getD lr1_1 0 0 - 0 < 0)) {r : Ex × St} (k : rn_L4 (rn_L4_1 n3_2 lr1_1 (1) (0) (1) ([0 - List.getD lr1_1 0 0 - 0])) r) : rn_L4 (rn_L4_0 n3_2 lr1_1) r := Loops.go (LS.of okF2 (show rndA (mkCfg Tryz.prog ctrF2 bw) 60 (lpOf Tryz.prog 68 2) 2 [3] [3, 12, 13, 14] [0] (rn_L4_0 n3_2 lr1_1) [true, false] [] = some (Ex.normal, (rn_L4_1 n3_2 lr1_1 (1) (0) (1) ([0 - List.getD lr1_1 0 0 - 0])), ((decide (0 < (↑n3_2 : Int)) = true) :: ttC 1 ((decide (0 < (↑n3_2 : Int)) = true) :: (decide (0 < List.length lr1_1) = true) :: (inR IntKind.i64 (0 - List.getD lr1_1 0 0) = true) :: (inR IntKind.i64 (0 - List.getD lr1_1 0 0 - 0) = true) :: (decide (0 - List.getD lr1_1 0 0 - 0 < 0) = false) :: ttC 3 ((decide (List.length (List.take 1 [0 - List.getD lr1_1 0 0 - 0]) = 1) = true) :: ttC 1 ([]))))) by kernel_rfl) (AllC.cons (decide_eq_true h1) (AllC.tt 1 (AllC.cons (decide_eq_true h1) (AllC.cons (decide_eq_true h2) (AllC.cons (inR64.2 h3) (AllC.cons (inR64.2 h4) (AllC.cons (decide_eq_false h5) (AllC.tt 3 (AllC.cons (decide_eq_true rfl) (AllC.tt 1 AllC.nil))))))))))) k
theorem rn_L4_0_2 (n3_2 : Nat) (lr1_1 : List Int) (h1 : ¬ (0 < (↑n3_2 : Int))) : rn_L4 (rn_L4_0 n3_2 lr1_1) (Ex.exit 4, (rn_L4_E0 n3_2 lr1_1)) := Loops.fin (LS.of okF2 (show rndA (mkCfg Tryz.prog ctrF2 bw) 60 (lpOf Tryz.prog 68 2) 2 [] [3, 12, 13, 14] [0] (rn_L4_0 n3_2 lr1_1) [false] [] = some (Ex.exit 4, (rn_L4_E0 n3_2 lr1_1), ((decide (0 < (↑n3_2 : Int)) = false) :: [])) by kernel_rfl) (AllC.cons (decide_eq_false h1) AllC.nil)) (fun h => nomatch h)
theorem rn_L4_1_0 (n3_2 : Nat) (lr1_1 : List Int) (n12 : Nat) (t13 : Int) (t14 : Int) (lr2 : List Int) (h1 : t14 < (↑n3_2 : Int)) (h2 : 0 ≤ t14) (h3 : 0 + Int.toNat t14 * 1 < List.length lr1_1) (h4 : -9223372036854775808 ≤ 0 - List.getD lr1_1 (0 + Int.toNat t14 * 1) 0 ∧ 0 - List.getD lr1_1 (0 + Int.toNat t14 * 1) 0 ≤ 9223372036854775807) (h5 : -9223372036854775808 ≤ 0 - List.getD lr1_1 (0 + Int.toNat t14 * 1) 0 - t13 ∧ 0 - List.getD lr1_1 (0 + Int.toNat t14 * 1) 0 - t13 ≤ 9223372036854775807) (h6 : 0 - List.getD lr1_1 (0 + Int.toNat t14 * 1) 0 - t13 < 0) (h7 : -9223372036854775808 ≤ 0 - List.getD lr1_1 (0 + Int.toNat t14 * 1) 0 - t13 + 100000000 ∧ 0 - List.getD lr1_1 (0 + Int.toNat t14 * 1) 0 - t13 + 100000000 ≤ 9223372036854775807) (h8 : (n12 + 1) * 8 ≤ 140737488355328) (h9 : n12 + 1 ≤ 4611686018427387904) (h10 : n12 ≤ List.length lr2) (h11 : -9223372036854775808 ≤ t14 + 1 ∧ t14 + 1 ≤ 9223372036854775807) {r : Ex × St} (k : rn_L4 (rn_L4_1 n3_2 lr1_1 (n12 + 1) (1) (t14 + 1) (List.take n12 lr2 ++ List.take 1 [0 - List.getD lr1_1 (0 + Int.toNat t14 * 1) 0 - t13 + 100000000])) r) : rn_L4 (rn_L4_1 n3_2 lr1_1 n12 t13 t14 lr2) r := Loops.go (LS.of okF2 (show rndA (mkCfg Tryz.prog ctrF2 bw) 60 (lpOf Tryz.prog 68 2) 2 [4] [3, 12, 13, 14] [0] (rn_L4_1 n3_2 lr1_1 n12 t13 t14 lr2) [true, true] [] = some (Ex.normal, (rn_L4_1 n3_2 lr1_1 (n12 + 1) (1) (t14 + 1) (List.take n12 lr2 ++ List.take 1 [0 - List.getD lr1_1 (0 + Int.toNat t14 * 1) 0 - t13 + 100000000])), ((decide (t14 < (↑n3_2 : Int)) = true) :: (decide (0 ≤ t14) = true) :: (decide (t14 < (↑n3_2 : Int)) = true) :: (decide (0 + Int.toNat t14 * 1 < List.length lr1_1) = true) :: (inR IntKind.i64 (0 - List.getD lr1_1 (0 + Int.toNat t14 * 1) 0) = true) :: (inR IntKind.i64 (0 - List.getD lr1_1 (0 + Int.toNat t14 * 1) 0 - t13) = true) :: (decide (0 - List.getD lr1_1 (0 + Int.toNat t14 * 1) 0 - t13 < 0) = true) :: (inR IntKind.i64 (0 - List.getD lr1_1 (0 + Int.toNat t14 * 1) 0 - t13 + 100000000) = true) :: (decide ((n12 + 1) * 8 ≤ 140737488355328) = true) :: (decide (n12 + 1 ≤ 4611686018427387904) = true) :: (decide (n12 ≤ List.length lr2) = true) :: (decide (List.length (List.take 1 [0 - List.getD lr1_1 (0 + Int.toNat t14 * 1) 0 - t13 + 100000000]) = 1) = true) :: (inR IntKind.i64 (t14 + 1) = true) :: [])) by kernel_rfl) (AllC.cons (decide_eq_true h1) (AllC.cons (decide_eq_true h2) (AllC.cons (decide_eq_true h1) (AllC.cons (decide_eq_true h3) (AllC.cons (inR64.2 h4) (AllC.cons (inR64.2 h5) (AllC.cons (decide_eq_true h6) (AllC.cons (inR64.2 h7) (AllC.cons (decide_eq_true h8) (AllC.cons (decide_eq_true h9) (AllC.cons (decide_eq_true h10) (AllC.cons (decide_eq_true rfl) (AllC.cons (inR64.2 h11) AllC.nil)))))))))))))) k
theorem rn_L4_1_1 (n3_2 : Nat) (lr1_1 : List Int) (n12 : Nat) (t13 : Int) (t14 : Int) (lr2 : List Int) (h1 : t14 < (↑n3_2 : Int)) (h2 : 0 ≤ t14) (h3 : 0 + Int.toNat t14 * 1 < List.length lr1_1) (h4 : -9223372036854775808 ≤ 0 - List.getD lr1_1 (0 + Int.toNat t14 * 1) 0 ∧ 0 - List.getD lr1_1 (0 + Int.toNat t14 * 1) 0 ≤ 9223372036854775807) (h5 : -9223372036854775808 ≤ 0 - List.getD lr1_1 (0 + Int.toNat t14 * 1) 0 - t13 ∧ 0 - List.getD lr1_1 (0 + Int.toNat t14 * 1) 0 - t13 ≤ 9223372036854775807) (h6 : ¬ (0 - List.getD lr1_1 (0 + Int.toNat t14 * 1) 0 - t13 < 0)) (h7 : (n12 + 1) * 8 ≤ 140737488355328) (h8 : n12 + 1 ≤ 4611686018427387904) (h9 : n12 ≤ List.length lr2) (h10 : -9223372036854775808 ≤ t14 + 1 ∧ t14 + 1 ≤ 9223372036854775807) {r : Ex × St} (k : rn_L4 (rn_L4_1 n3_2 lr1_1 (n12 + 1) (0) (t14 + 1) (List.take n12 lr2 ++ List.take 1 [0 - List.getD lr1_1 (0 + Int.toNat t14 * 1) 0 - t13])) r) : rn_L4 (rn_L4_1 n3_2 lr1_1 n12 t13 t14 lr2) r := Loops.go (LS.of okF2 (show rndA (mkCfg Tryz.prog ctrF2 bw) 60 (lpOf Tryz.prog 68 2) 2 [4] [3, 12, 13, 14] [0] (rn_L4_1 n3_2 lr1_1 n12 t13 t14 lr2) [true, false] [] = some (Ex.normal, (rn_L4_1 n3_2 lr1_1 (n12 + 1) (0) (t14 + 1) (List.take n12 lr2 ++ List.take 1 [0 - List.getD lr1_1 (0 + Int.toNat t14 * 1) 0 - t13])), ((decide (t14 < (↑n3_2 : Int)) = true) :: (decide (0 ≤ t14) = true) :: (decide (t14 < (↑n3_2 : Int)) = true) :: (decide (0 + Int.toNat t14 * 1 < List.length lr1_1) = true) :: (inR IntKind.i64 (0 - List.getD lr1_1 (0 + Int.toNat t14 * 1) 0) = true) :: (inR IntKind.i64 (0 - List.getD lr1_1 (0 + Int.toNat t14 * 1) 0 - t13) = true) :: (decide (0 - List.getD lr1_1 (0 + Int.toNat t14 * 1) 0 - t13 < 0) = false) :: (decide ((n12 + 1) * 8 ≤ 140737488355328) = true) :: (decide (n12 + 1 ≤ 4611686018427387904) = true) :: (decide (n12 ≤ List.length lr2) = true) :: (decide (List.length (List.take 1 [0 - List.getD lr1_1 (0 + Int.toNat t14 * 1) 0 - t13]) = 1) = true) :: (inR IntKind.i64 (t14 + 1) = true) :: [])) by kernel_rfl) (AllC.cons (decide_eq_true h1) (AllC.cons (decide_eq_true h2) (AllC.cons (decide_eq_true h1) (AllC.cons (decide_eq_true h3) (AllC.cons (inR64.2 h4) (AllC.cons (inR64.2 h5) (AllC.cons (decide_eq_false h6) (AllC.cons (decide_eq_true h7) (AllC.cons (decide_eq_true h8) (AllC.cons (decide_eq_true h9) (AllC.cons (decide_eq_true rfl) (AllC.cons (inR64.2 h10) AllC.nil))))))))))))) k
theorem rn_L4_1_2 (n3_2 : Nat) (lr1_1 : List Int) (n12 : Nat) (t13 : Int) (t14 : Int) (lr2 : List Int) (h1 : ¬ (t14 < (↑n3_2 : Int))) : rn_L4 (rn_L4_1 n3_2 lr1_1 n12 t13 t14 lr2) (Ex.exit 4, (rn_L4_E1 n3_2 lr1_1 n12 t13 t14 lr2)) := Loops.fin (LS.of okF2 (show rndA (mkCfg Tryz.prog ctrF2 bw) 60 (lpOf Tryz.prog 68 2) 2 [2] [3, 12, 13, 14] [0] (rn_L4_1 n3_2 lr1_1 n12 t13 t14 lr2) [false] [] = some (Ex.exit 4, (rn_L4_E1 n3_2 lr1_1 n12 t13 t14 lr2), ((decide (t14 < (↑n3_2 : Int)) = false) :: [])) by kernel_rfl) (AllC.cons (decide_eq_false h1) AllC.nil)) (fun h => nomatch h)
theorem rn_6 (x : List Int) (n3 : Nat) (t4 : Int) (t5 : Int) (lr0 : List Int) (n3_1 : Nat) (t4_1 : Int) (lr1 : List Int) (hL1 : rn_L0 (rn_L0_0 x) (Ex.exit 0, (rn_L0_E1 x n3 t4 t5 lr0))) (hL2 : rn_L2 (rn_L2_0 n3 t4 lr0) (Ex.exit 2, (rn_L2_E1 n3 t4 lr0 n3_1 t4_1 lr1))) (h3 : t4_1 ≠ 0) (hL3 : rn_L4 (rn_L4_0 n3_1 lr1) (Ex.exit 4, (rn_L4_E0 n3_1 lr1))) (h5 : 1 ≤ 1) (h6 : pSg (List.take 1 (List.take 1 [1]))) : FC Tryz.prog 68 [.sq x] (AV.sq [-1]) := fc_fun okF2 (show funA (mkCfg Tryz.prog ctrF2 bw) 60 68 [.sq x] [false, true] [some (viaL Tryz.prog (lpOf Tryz.prog 68 0) [] [0, 3, 4, 5] [] (rn_L0_0 x) (Ex.exit 0, (rn_L0_E1 x n3 t4 t5 lr0))), some (viaL Tryz.prog (lpOf Tryz.prog 68 1) [] [3, 4] [0] (rn_L2_0 n3 t4 lr0) (Ex.exit 2, (rn_L2_E1 n3 t4 lr0 n3_1 t4_1 lr1))), some (viaL Tryz.prog (lpOf Tryz.prog 68 2) [] [3, 12, 13, 14] [0] (rn_L4_0 n3_1 lr1) (Ex.exit 4, (rn_L4_E0 n3_1 lr1)))] = some (AV.sq [-1], (viaC Tryz.prog (lpOf Tryz.prog 68 0) [0, 3, 4, 5] [] (rn_L0_0 x) 0 (Ex.exit 0, (rn_L0_E1 x n3 t4 t5 lr0)) (viaC Tryz.prog (lpOf Tryz.prog 68 1) [3, 4] [0] (rn_L2_0 n3 t4 lr0) 1 (Ex.exit 2, (rn_L2_E1 n3 t4 lr0 n3_1 t4_1 lr1)) (((t4_1 == 0) = false) :: viaC Tryz.prog (lpOf Tryz.prog 68 2) [3, 12, 13, 14] [0] (rn_L4_0 n3_1 lr1) 2 (Ex.exit 4, (rn_L4_E0 n3_1 lr1)) (ttC 5 ((1 ≤ 1) :: (pSg (List.take 1 (List.take 1 [1]))) :: [])))))) by kernel_rfl) (AllC.via hL1 (AllC.via hL2 (AllC.cons (beq_false_of_ne h3) (AllC.via hL3 (AllC.tt 5 (AllC.cons (h5) (AllC.cons (h6) AllC.nil)))))))
theorem rn_7 (x : List Int) (n3 : Nat) (t4 : Int) (t5 : Int) (lr0 : List Int) (n3_1 : Nat) (t4_1 : Int) (lr1 : List Int) (n12 : Nat) (t13 : Int) (t14 : Int) (lr2 : List Int) (hL1 : rn_L0 (rn_L0_0 x) (Ex.exit 0, (rn_L0_E1 x n3 t4 t5 lr0))) (hL2 : rn_L2 (rn_L2_0 n3 t4 lr0) (Ex.exit 2, (rn_L2_E1 n3 t4 lr0 n3_1 t4_1 lr1))) (h3 : t4_1 ≠ 0) (hL3 : rn_L4 (rn_L4_0 n3_1 lr1) (Ex.exit 4, (rn_L4_E1 n3_1 lr1 n12 t13 t14 lr2))) (h5 : t13 = 0) (h6 : (n12 + 1) * 8 ≤ 140737488355328) (h7 : n12 + 1 ≤ 4611686018427387904) (h8 : n12 ≤ List.length lr2) (h9 : n12 + 1 ≤ List.length (List.take n12 lr2 ++ List.take 1 [1])) (h10 : pSg (List.take (n12 + 1) (List.take n12 lr2 ++ List.take 1 [1]))) : FC Tryz.prog 68 [.sq x] (AV.sq (sgnd true (List.take (n12 + 1) (List.take n12 lr2 ++ List.take 1 [1])))) := fc_fun okF2 (show funA (mkCfg Tryz.prog ctrF2 bw) 60 68 [.sq x] [false, true] [some (viaL Tryz.prog (lpOf Tryz.prog 68 0) [] [0, 3, 4, 5] [] (rn_L0_0 x) (Ex.exit 0, (rn_L0_E1 x n3 t4 t5 lr0))), some (viaL Tryz.prog (lpOf Tryz.prog 68 1) [] [3, 4] [0] (rn_L2_0 n3 t4 lr0) (Ex.exit 2, (rn_L2_E1 n3 t4 lr0 n3_1 t4_1 lr1))), some (viaL Tryz.prog (lpOf Tryz.prog 68 2) [] [3, 12, 13, 14] [0] (rn_L4_0 n3_1 lr1) (Ex.exit 4, (rn_L4_E1 n3_1 lr1 n12 t13 t14 lr2)))] = some (AV.sq (sgnd true (List.take (n12 + 1) (List.take n12 lr2 ++ List.take 1 [1]))), (viaC Tryz.prog (lpOf Tryz.prog 68 0) [0, 3, 4, 5] [] (rn_L0_0 x) 0 (Ex.exit 0, (rn_L0_E1 x n3 t4 t5 lr0)) (viaC Tryz.prog (lpOf Tryz.prog 68 1) [3, 4] [0] (rn_L2_0 n3 t4 lr0) 1 (Ex.exit 2, (rn_L2_E1 n3 t4 lr0 n3_1 t4_1 lr1)) (((t4_1 == 0) = false) :: viaC Tryz.prog (lpOf Tryz.prog 68 2) [3, 12, 13, 14] [0] (rn_L4_0 n3_1 lr1) 2 (Ex.exit 4, (rn_L4_E1 n3_1 lr1 n12 t13 t14 lr2)) (((t13 == 0) = true) :: (decide ((n12 + 1) * 8 ≤ 140737488355328) = true) :: (decide (n12 + 1 ≤ 4611686018427387904) = true) :: (decide (n12 ≤ List.length lr2) = true) :: ttC 1 ((n12 + 1 ≤ List.length (List.take n12 lr2 ++ List.take 1 [1])) :: (pSg (List.take (n12 + 1) (List.take n12 lr2 ++ List.take 1 [1]))) :: [])))))) by kernel_rfl) (AllC.via hL1 (AllC.via hL2 (AllC.cons (beq_false_of_ne h3) (AllC.via hL3 (AllC.cons (beq_iff_eq.2 h5) (AllC.cons (decide_eq_true h6) (AllC.cons (decide_eq_true h7) (AllC.cons (decide_eq_true h8) (AllC.tt 1 (AllC.cons (h9) (AllC.cons (h10) AllC.nil)))))))))))
theorem rn_8 (x : List Int) (n3 : Nat) (t4 : Int) (t5 : Int) (lr0 : List Int) (n3_1 : Nat) (t4_1 : Int) (lr1 : List Int) (n12 : Nat) (t13 : Int) (t14 : Int) (lr2 : List Int) (hL1 : rn_L0 (rn_L0_0 x) (Ex.exit 0, (rn_L0_E1 x n3 t4 t5 lr0))) (hL2 : rn_L2 (rn_L2_0 n3 t4 lr0) (Ex.exit 2, (rn_L2_E1 n3 t4 lr0 n3_1 t4_1 lr1))) (h3 : t4_1 ≠ 0) (hL3 : rn_L4 (rn_L4_0 n3_1 lr1) (Ex.exit 4, (rn_L4_E1 n3_1 lr1 n12 t13 t14 lr2))) (h5 : t13 ≠ 0) (h6 : n12 ≤ List.length lr2) (h7 : pSg (List.take n12 lr2)) : FC Tryz.prog 68 [.sq x] (AV.sq (sgnd true (List.take n12 lr2))) := fc_fun okF2 (show funA (mkCfg Tryz.prog ctrF2 bw) 60 68 [.sq x] [false, false] [some (viaL Tryz.prog (lpOf Tryz.prog 68 0) [] [0, 3, 4, 5] [] (rn_L0_0 x) (Ex.exit 0, (rn_L0_E1 x n3 t4 t5 lr0))), some (viaL Tryz.prog (lpOf Tryz.prog 68 1) [] [3, 4] [0] (rn_L2_0 n3 t4 lr0) (Ex.exit 2, (rn_L2_E1 n3 t4 lr0 n3_1 t4_1 lr1))), some (viaL Tryz.prog (lpOf Tryz.prog 68 2) [] [3, 12, 13, 14] [0] (rn_L4_0 n3_1 lr1) (Ex.exit 4, (rn_L4_E1 n3_1 lr1 n12 t13 t14 lr2)))] = some (AV.sq (sgnd true (List.take n12 lr2)), (viaC Tryz.prog (lpOf Tryz.prog 68 0) [0, 3, 4, 5] [] (rn_L0_0 x) 0 (Ex.exit 0, (rn_L0_E1 x n3 t4 t5 lr0)) (viaC Tryz.prog (lpOf Tryz.prog 68 1) [3, 4] [0] (rn_L2_0 n3 t4 lr0) 1 (Ex.exit 2, (rn_L2_E1 n3 t4 lr0 n3_1 t4_1 lr1)) (((t4_1 == 0) = false) :: viaC Tryz.prog (lpOf Tryz.prog 68 2) [3, 12, 13, 14] [0] (rn_L4_0 n3_1 lr1) 2 (Ex.exit 4, (rn_L4_E1 n3_1 lr1 n12 t13 t14 lr2)) (((t13 == 0) = false) :: (n12 ≤ List.length lr2) :: (pSg (List.take n12 lr2)) :: []))))) by kernel_rfl) (AllC.via hL1 (AllC.via hL2 (AllC.cons (beq_false_of_ne h3) (AllC.via hL3 (AllC.cons (beq_false_of_ne h5) (AllC.cons (h6) (AllC.cons (h7) AllC.nil)))))))
theorem snoc1 (out : List Int) (d : Int) : List.take out.length out ++ List.take 1 [d] = out ++ [d] := by simp
theorem Digs_sn {out : List Int} {d : Int} (h : Digs out) (h0 : 0 ≤ d) (h1 : d < 100000000) : Digs (out ++ [d]) := by
  intro e he
  rcases List.mem_append.1 he with h2 | h2
  · exact h e h2
  · simp at h2; subst h2; exact ⟨h0, h1⟩
theorem rnA : ∀ (m : Nat) (x : List Int) (i : Nat) (c : Int) (out : List Int), i + m = x.length → x.length ≤ 1000000000 → (∀ d ∈ x, pFloored d) → Digs out → out.length + m ≤ 1000000000 → -1000000000000 ≤ c → c ≤ 1000000000000 →
    ∃ c' out', Digs out' ∧ out'.length = out.length + m ∧ vl out' + 100000000 ^ out'.length * c' = vl out + 100000000 ^ out.length * (c + vl (x.drop i)) ∧ -1000000000000 ≤ c' ∧ c' ≤ 1000000000000 ∧
      rn_L0 (rn_L0_1 x out.length c i out) (.exit 0, rn_L0_E1 x out'.length c' x.length out') := by
  intro m
  induction m with
  | zero =>
    intro x i c out hi hxl hx hd hl h1 h2
    have hi' : i = x.length := by omega
    subst hi'
    exact ⟨c, out, hd, rfl, by simp [vl], h1, h2, rn_L0_1_1 x out.length c x.length out (by omega)⟩
  | succ m ih =>
    intro x i c out hi hxl hx hd hl h1 h2
    have hlt : i < x.length := by omega
    have hxi := hx (x.getD i 0) (by simp [List.getD, hlt])
    have hdr : x.drop i = x.getD i 0 :: x.drop (i + 1) := by rw [List.drop_eq_getElem_cons hlt]; simp [List.getD, hlt]
    have hxi' := hxi
    unfold pFloored at hxi'
    obtain ⟨c', out', k1, k2, k3, k4, k5, k6⟩ := ih x (i + 1) (x.getD i 0 / 100000000 + (x.getD i 0 % 100000000 + c) / 100000000) (out ++ [(x.getD i 0 % 100000000 + c) % 100000000]) (by omega) hxl hx
      (Digs_sn hd (by omega) (by omega)) (by simp; omega) (by omega) (by omega)
    refine ⟨c', out', k1, by simp at k2; omega, ?_, k4, k5, ?_⟩
    · rw [k3, hdr]
      exact vl_step _ _ _ _ _ _ (by omega)
    · have hn : Int.toNat (i : Int) = i := by omega
      refine rn_L0_1_0 x out.length c i out (by omega) (by omega) (by omega) ?_ ?_ ?_ (by omega) (by omega) (by omega) ?_ (by omega) ?_ <;> (try rw [hn])
      · exact hxi
      · omega
      · unfold pFloored; omega
      · omega
      · rw [snoc1]
        simpa using k6
theorem rnB : ∀ (m : Nat) (p : Nat) (q : Int) (l : List Int) (c : Int) (out : List Int), c.natAbs ≤ m → -1000000000000 ≤ c → c ≤ 1000000000000 → Digs out → out.length + m ≤ 10000000000000 →
    ∃ c' out', (c' = 0 ∨ c' = -1) ∧ Digs out' ∧ (out.length ≤ out'.length ∧ out'.length ≤ out.length + m) ∧ vl out' + 100000000 ^ out'.length * c' = vl out + 100000000 ^ out.length * c ∧
      rn_L2 (rn_L2_1 p q l out.length c out) (.exit 2, rn_L2_E1 p q l out'.length c' out') := by
  intro m
  induction m with
  | zero =>
    intro p q l c out hm h1 h2 hd hl
    have : c = 0 := by omega
    subst this
    exact ⟨0, out, .inl rfl, hd, ⟨Nat.le_refl _, by omega⟩, rfl, rn_L2_1_2 p q l out.length 0 out rfl⟩
  | succ m ih =>
    intro p q l c out hm h1 h2 hd hl
    by_cases h0 : c = 0
    · subst h0; exact ⟨0, out, .inl rfl, hd, ⟨Nat.le_refl _, by omega⟩, rfl, rn_L2_1_2 p q l out.length 0 out rfl⟩
    by_cases h3 : c = -1
    · subst h3; exact ⟨-1, out, .inr rfl, hd, ⟨Nat.le_refl _, by omega⟩, rfl, rn_L2_1_1 p q l out.length (-1) out (by omega) rfl⟩
    obtain ⟨c', out', k1, k2, k3, k4, k5⟩ := ih p q l (c / 100000000) (out ++ [c % 100000000]) (by omega) (by omega) (by omega) (Digs_sn hd (by omega) (by omega)) (by simp; omega)
    refine ⟨c', out', k1, k2, ⟨by have := k3.1; simp at this; omega, by have := k3.2; simp at this; omega⟩, ?_, ?_⟩
    · rw [k4]
      have := vl_step out 0 c (c % 100000000) (c / 100000000) 0 (by omega)
      simpa using this
    · refine rn_L2_1_0 p q l out.length c out h0 h3 (by unfold pFloored; omega) (by omega) (by omega) (by omega) ?_
      rw [snoc1]
      simpa using k5
/-- The complement, digit by digit. -/
theorem rnC (LP : St → Ex × St → Prop) (F : Nat → Int → Int → List Int → St) (G : Nat → Int → Int → List Int → Ex × St) (out : List Int)
    (hs0 : ∀ (k : Nat) (b : Int) (sz : List Int) (r : Ex × St), k < out.length → sz.length = k → (b = 0 ∨ b = 1) → 0 - out.getD k 0 - b < 0 → LP (F (k + 1) 1 (k + 1) (sz ++ [0 - out.getD k 0 - b + 100000000])) r → LP (F k b k sz) r)
    (hs1 : ∀ (k : Nat) (b : Int) (sz : List Int) (r : Ex × St), k < out.length → sz.length = k → (b = 0 ∨ b = 1) → ¬ (0 - out.getD k 0 - b < 0) → LP (F (k + 1) 0 (k + 1) (sz ++ [0 - out.getD k 0 - b])) r → LP (F k b k sz) r)
    (hx : ∀ (b : Int) (sz : List Int), LP (F out.length b out.length sz) (G out.length b out.length sz)) (hd : Digs out) :
    ∀ (m k : Nat) (b : Int) (sz : List Int), k + m = out.length → sz.length = k → (b = 0 ∨ b = 1) → Digs sz → vl sz = 100000000 ^ k * b - vl (out.take k) →
      ∃ b' sz', (b' = 0 ∨ b' = 1) ∧ Digs sz' ∧ sz'.length = out.length ∧ vl sz' = 100000000 ^ out.length * b' - vl out ∧ LP (F k b k sz) (G out.length b' out.length sz') := by
  intro m
  induction m with
  | zero =>
    intro k b sz hk hl hb hs hv
    have : k = out.length := by omega
    subst this
    rw [List.take_length] at hv
    exact ⟨b, sz, hb, hs, hl, hv, hx b sz⟩
  | succ m ih =>
    intro k b sz hk hl hb hs hv
    have hlt : k < out.length := by omega
    have hg : out[k] = out.getD k 0 := by simp [List.getD, hlt]
    have hdk := hd (out.getD k 0) (by simp [List.getD, hlt])
    have htk : out.take (k + 1) = out.take k ++ [out.getD k 0] := by rw [List.take_succ_eq_append_getElem hlt, hg]
    have hlk : (out.take k).length = k := by simp; omega
    have a0 := hs0 k b sz
    have a1 := hs1 k b sz
    clear hg
    generalize out.getD k 0 = d at *
    have val : ∀ (e b' : Int), 0 - d - b = e - 100000000 * b' → vl (sz ++ [e]) = 100000000 ^ (k + 1) * b' - vl (out.take (k + 1)) := by
      intro e b' he
      rw [htk, vl_snoc, vl_snoc, hl, hlk, hv, Int.pow_succ]
      have : e = 100000000 * b' - d - b := by omega
      rw [this, Int.mul_sub, Int.mul_sub, ← Int.mul_assoc]
      omega
    by_cases h : 0 - d - b < 0
    · obtain ⟨b', sz', k1, k2, k3, k4, k5⟩ := ih (k + 1) 1 (sz ++ [0 - d - b + 100000000]) (by omega) (by simp [hl]) (.inr rfl) (Digs_sn hs (by omega) (by omega)) (val _ _ (by omega))
      exact ⟨b', sz', k1, k2, k3, k4, a0 _ hlt hl hb h (by simpa using k5)⟩
    · obtain ⟨b', sz', k1, k2, k3, k4, k5⟩ := ih (k + 1) 0 (sz ++ [0 - d - b]) (by omega) (by simp [hl]) (.inl rfl) (Digs_sn hs (by omega) (by omega)) (val _ _ (by omega))
      exact ⟨b', sz', k1, k2, k3, k4, a1 _ hlt hl hb h (by simpa using k5)⟩

theorem rnL3 (out : List Int) (hd : Digs out) (hne : out ≠ []) (hl : out.length ≤ 10000000000000) :
    ∃ b' sz', (b' = 0 ∨ b' = 1) ∧ Digs sz' ∧ sz'.length = out.length ∧ vl sz' = 100000000 ^ out.length * b' - vl out ∧ rn_L3 (rn_L3_0 out.length out) (.exit 4, rn_L3_E1 out.length out out.length b' out.length sz') := by
  have h0 : 0 < out.length := List.length_pos_iff.2 hne
  have hd0 := hd (out.getD 0 0) (by simp [List.getD, h0])
  have hg : out[0] = out.getD 0 0 := by simp [List.getD, h0]
  have ht : out.take 1 = [out.getD 0 0] := by rw [List.take_succ_eq_append_getElem h0, hg]; rfl
  have key := rnC rn_L3 (fun n b k sz => rn_L3_1 out.length out n b k sz) (fun n b k sz => (.exit 4, rn_L3_E1 out.length out n b k sz)) out
    (fun k b sz r hk hs hb h kk => by
      have hdk := hd (out.getD k 0) (by simp [List.getD, hk])
      have hn : 0 + Int.toNat (k : Int) * 1 = k := by omega
      refine rn_L3_1_0 out.length out k b k sz (by omega) (by omega) ?_ ?_ ?_ ?_ ?_ (by omega) (by omega) (by omega) (by omega) ?_ <;> rw [hn]
      · omega
      · omega
      · rcases hb with rfl | rfl <;> omega
      · exact h
      · rcases hb with rfl | rfl <;> omega
      · have := snoc1 sz (0 - out.getD k 0 - b + 100000000)
        rw [hs] at this
        rw [this]; exact kk)
    (fun k b sz r hk hs hb h kk => by
      have hdk := hd (out.getD k 0) (by simp [List.getD, hk])
      have hn : 0 + Int.toNat (k : Int) * 1 = k := by omega
      refine rn_L3_1_1 out.length out k b k sz (by omega) (by omega) ?_ ?_ ?_ ?_ (by omega) (by omega) (by omega) (by omega) ?_ <;> rw [hn]
      · omega
      · omega
      · rcases hb with rfl | rfl <;> omega
      · exact h
      · have := snoc1 sz (0 - out.getD k 0 - b)
        rw [hs] at this
        rw [this]; exact kk)
    (fun b sz => rn_L3_1_2 out.length out out.length b out.length sz (by omega)) hd
  by_cases h : 0 - out.getD 0 0 - 0 < 0
  · obtain ⟨b', sz', k1, k2, k3, k4, k5⟩ := key (out.length - 1) 1 1 [0 - out.getD 0 0 - 0 + 100000000] (by omega) rfl (.inr rfl) (Digs_sn (out := []) (fun d hd => by cases hd) (by omega) (by omega)) (by rw [ht]; simp only [vl]; omega)
    exact ⟨b', sz', k1, k2, k3, k4, rn_L3_0_0 out.length out (by omega) (by omega) (by omega) (by omega) h (by omega) k5⟩
  · obtain ⟨b', sz', k1, k2, k3, k4, k5⟩ := key (out.length - 1) 1 0 [0 - out.getD 0 0 - 0] (by omega) rfl (.inl rfl) (Digs_sn (out := []) (fun d hd => by cases hd) (by omega) (by omega)) (by rw [ht]; simp only [vl]; omega)
    exact ⟨b', sz', k1, k2, k3, k4, rn_L3_0_1 out.length out (by omega) (by omega) (by omega) (by omega) h k5⟩
theorem rnL4 (out : List Int) (hd : Digs out) (hne : out ≠ []) (hl : out.length ≤ 10000000000000) :
    ∃ b' sz', (b' = 0 ∨ b' = 1) ∧ Digs sz' ∧ sz'.length = out.length ∧ vl sz' = 100000000 ^ out.length * b' - vl out ∧ rn_L4 (rn_L4_0 out.length out) (.exit 4, rn_L4_E1 out.length out out.length b' out.length sz') := by
  have h0 : 0 < out.length := List.length_pos_iff.2 hne
  have hd0 := hd (out.getD 0 0) (by simp [List.getD, h0])
  have hg : out[0] = out.getD 0 0 := by simp [List.getD, h0]
  have ht : out.take 1 = [out.getD 0 0] := by rw [List.take_succ_eq_append_getElem h0, hg]; rfl
  have key := rnC rn_L4 (fun n b k sz => rn_L4_1 out.length out n b k sz) (fun n b k sz => (.exit 4, rn_L4_E1 out.length out n b k sz)) out
    (fun k b sz r hk hs hb h kk => by
      have hdk := hd (out.getD k 0) (by simp [List.getD, hk])
      have hn : 0 + Int.toNat (k : Int) * 1 = k := by omega
      refine rn_L4_1_0 out.length out k b k sz (by omega) (by omega) ?_ ?_ ?_ ?_ ?_ (by omega) (by omega) (by omega) (by omega) ?_ <;> rw [hn]
      · omega
      · omega
      · rcases hb with rfl | rfl <;> omega
      · exact h
      · rcases hb with rfl | rfl <;> omega
      · have := snoc1 sz (0 - out.getD k 0 - b + 100000000)
        rw [hs] at this
        rw [this]; exact kk)
    (fun k b sz r hk hs hb h kk => by
      have hdk := hd (out.getD k 0) (by simp [List.getD, hk])
      have hn : 0 + Int.toNat (k : Int) * 1 = k := by omega
      refine rn_L4_1_1 out.length out k b k sz (by omega) (by omega) ?_ ?_ ?_ ?_ (by omega) (by omega) (by omega) (by omega) ?_ <;> rw [hn]
      · omega
      · omega
      · rcases hb with rfl | rfl <;> omega
      · exact h
      · have := snoc1 sz (0 - out.getD k 0 - b)
        rw [hs] at this
        rw [this]; exact kk)
    (fun b sz => rn_L4_1_2 out.length out out.length b out.length sz (by omega)) hd
  by_cases h : 0 - out.getD 0 0 - 0 < 0
  · obtain ⟨b', sz', k1, k2, k3, k4, k5⟩ := key (out.length - 1) 1 1 [0 - out.getD 0 0 - 0 + 100000000] (by omega) rfl (.inr rfl) (Digs_sn (out := []) (fun d hd => by cases hd) (by omega) (by omega)) (by rw [ht]; simp only [vl]; omega)
    exact ⟨b', sz', k1, k2, k3, k4, rn_L4_0_0 out.length out (by omega) (by omega) (by omega) (by omega) h (by omega) k5⟩
  · obtain ⟨b', sz', k1, k2, k3, k4, k5⟩ := key (out.length - 1) 1 0 [0 - out.getD 0 0 - 0] (by omega) rfl (.inl rfl) (Digs_sn (out := []) (fun d hd => by cases hd) (by omega) (by omega)) (by rw [ht]; simp only [vl]; omega)
    exact ⟨b', sz', k1, k2, k3, k4, rn_L4_0_1 out.length out (by omega) (by omega) (by omega) (by omega) h k5⟩

theorem nf_pos {out : List Int} (hd : Digs out) : trm out = nform (vl out) := by
  rw [trm_digs hd]
  have := vl_nonneg hd
  unfold nform
  rw [if_neg (by omega)]
  congr 1; omega
theorem nf_neg {sz : List Int} (hd : Digs sz) (h : 0 < vl sz) : sgnd true sz = nform (-vl sz) := by
  unfold sgnd nform
  rw [if_pos (by omega), trm_digs hd, show (-vl sz).natAbs = (vl sz).toNat by omega]
/-- What the complement gives. -/
theorem nf_cpl {out sz : List Int} {b v : Int} (ho : Digs out) (hs : Digs sz) (hl : sz.length = out.length) (hb : b = 0 ∨ b = 1) (hv : vl out - 100000000 ^ out.length = v) (hz : vl sz = 100000000 ^ out.length * b - vl out) :
    (b = 0 → sgnd true (sz ++ [1]) = nform v) ∧ (b ≠ 0 → sgnd true sz = nform v) := by
  have h1 := vl_lt ho
  have h2 := vl_nonneg hs
  have h3 := vl_nonneg ho
  constructor
  · rintro rfl
    have e : vl (sz ++ [1]) = -v := by rw [vl_snoc, hl]; omega
    rw [nf_neg (Digs_sn hs (by decide) (by decide)) (by omega), e, Int.neg_neg]
  · intro h0
    have hb1 : b = 1 := by omega
    subst hb1
    have e : vl sz = -v := by omega
    rw [nf_neg hs (by omega), e, Int.neg_neg]
theorem digs_pS {l : List Int} (hd : Digs l) (hl : l.length ≤ 1048576) : pSg l := ⟨hl, fun d h => by have := hd d h; omega⟩
def pNm (x : List Int) : Prop := x.length ≤ 1000000 ∧ ∀ d ∈ x, pFloored d
theorem rNormal_fc (x : List Int) (h : pNm x) : FC Tryz.prog 68 [.sq x] (.ni (vl x)) := by
  obtain ⟨hx, hp⟩ := h
  have toNi : ∀ {l : List Int}, l = nform (vl x) → FC Tryz.prog 68 [.sq x] (.sq l) → FC Tryz.prog 68 [.sq x] (.ni (vl x)) := fun hl hf => hf.res fun E v hr => hr.toNi rfl hl
  cases x with
  | nil => exact toNi rfl (rn_0 [] (rn_L0_0_1 [] (by simp)) rn_L1_0_0 (by unfold pTr; simp))
  | cons d x =>
    have hd := hp d (by simp)
    have hd' := hd
    unfold pFloored at hd'
    obtain ⟨c, out, a1, a2, a3, a4, a5, a6⟩ := rnA x.length (d :: x) 1 (d / 100000000 + (d % 100000000 + 0) / 100000000) [(d % 100000000 + 0) % 100000000] (by simp; omega) (by simp at hx ⊢; omega) hp
      (Digs_sn (out := []) (fun d hd => by cases hd) (by omega) (by omega)) (by simp at hx ⊢; omega) (by omega) (by omega)
    have hL0 : rn_L0 (rn_L0_0 (d :: x)) (.exit 0, rn_L0_E1 (d :: x) out.length c (d :: x).length out) :=
      rn_L0_0_0 (d :: x) (by simp <;> omega) (by simp) hd (by simp only [List.getD_cons_zero]; omega) (by simp only [List.getD_cons_zero]; unfold pFloored; omega) (by simp only [List.getD_cons_zero]; omega) a6
    have hv : vl out + 100000000 ^ out.length * c = vl (d :: x) := by
      rw [a3]
      simp only [vl, List.length_singleton, List.drop_succ_cons, List.drop_zero, Int.pow_succ, Int.pow_zero]
      omega
    have hol : out.length ≤ 1000000 := by simp at a2 hx; omega
    have hone : out ≠ [] := by intro h; rw [h] at a2; simp at a2; omega
    have take_all2 : ∀ l : List Int, l.take l.length = l := fun l => List.take_length
    by_cases c0 : c = 0
    · have hL2 : rn_L2 (rn_L2_0 out.length c out) (.exit 2, rn_L2_E0 out.length c out) := rn_L2_0_2 _ _ _ c0
      have := rn_1 (d :: x) out.length c (d :: x).length out hL0 hL2 c0 (Nat.le_refl _) (by rw [take_all2]; unfold pTr; omega)
      rw [take_all2] at this
      refine toNi ?_ this
      rw [nf_pos a1, ← hv, c0, Int.mul_zero, Int.add_zero]
    by_cases c1 : c = -1
    · have hL2 : rn_L2 (rn_L2_0 out.length c out) (.exit 2, rn_L2_E0 out.length c out) := rn_L2_0_1 _ _ _ c0 c1
      obtain ⟨b, sz, k1, k2, k3, k4, k5⟩ := rnL3 out a1 hone (by omega)
      have hcp := nf_cpl (v := vl (d :: x)) a1 k2 k3 k1 (by rw [← hv, c1]; omega) k4
      by_cases hb : b = 0
      · have es := snoc1 sz 1
        rw [k3] at es
        have ea : List.take (out.length + 1) (sz ++ [1]) = sz ++ [1] := List.take_of_length_le (by simp [k3])
        have hres := rn_3 (d :: x) out.length c (d :: x).length out out.length b out.length sz hL0 hL2 c0 k5 hb (by omega) (by omega) (by omega) (by rw [es]; simp [k3]) (by rw [es, ea]; exact digs_pS (Digs_sn k2 (by decide) (by decide)) (by simp; omega))
        rw [es, ea] at hres
        exact toNi (hcp.1 hb) hres
      · have ea : List.take out.length sz = sz := by rw [← k3]; exact List.take_length
        have hres := rn_4 (d :: x) out.length c (d :: x).length out out.length b out.length sz hL0 hL2 c0 k5 hb (by omega) (by rw [ea]; exact digs_pS k2 (by omega))
        rw [ea] at hres
        exact toNi (hcp.2 hb) hres
    · obtain ⟨c', out', e1, e2, e3, e4, e5⟩ := rnB (c / 100000000).natAbs out.length c out (c / 100000000) (out ++ [c % 100000000]) (Nat.le_refl _) (by omega) (by omega) (Digs_sn a1 (by omega) (by omega)) (by simp; omega)
      have hL2 : rn_L2 (rn_L2_0 out.length c out) (.exit 2, rn_L2_E1 out.length c out out'.length c' out') := by
        refine rn_L2_0_0 _ _ _ c0 c1 (by unfold pFloored; omega) (by omega) (by omega) (by omega) ?_
        rw [snoc1]; simpa using e5
      have hv' : vl out' + 100000000 ^ out'.length * c' = vl (d :: x) := by
        rw [e4, ← hv]
        have := vl_step out 0 c (c % 100000000) (c / 100000000) 0 (by omega)
        simpa using this
      have hol' : out'.length ≤ 1048000 := by have := e3.2; simp at this; omega
      have hone' : out' ≠ [] := by intro h; have := e3.1; rw [h] at this; simp at this
      rcases e1 with rfl | rfl
      · have := rn_5 (d :: x) out.length c (d :: x).length out out'.length 0 out' hL0 hL2 rfl (Nat.le_refl _) (by rw [take_all2]; unfold pTr; omega)
        rw [take_all2] at this
        refine toNi ?_ this
        rw [nf_pos e2, ← hv', Int.mul_zero, Int.add_zero]
      · obtain ⟨b, sz, k1, k2, k3, k4, k5⟩ := rnL4 out' e2 hone' (by omega)
        have hcp := nf_cpl (v := vl (d :: x)) e2 k2 k3 k1 (by rw [← hv']; omega) k4
        by_cases hb : b = 0
        · have es := snoc1 sz 1
          rw [k3] at es
          have ea : List.take (out'.length + 1) (sz ++ [1]) = sz ++ [1] := List.take_of_length_le (by simp [k3])
          have hres := rn_7 (d :: x) out.length c (d :: x).length out out'.length (-1) out' out'.length b out'.length sz hL0 hL2 (by decide) k5 hb (by omega) (by omega) (by omega) (by rw [es]; simp [k3]) (by rw [es, ea]; exact digs_pS (Digs_sn k2 (by decide) (by decide)) (by simp; omega))
          rw [es, ea] at hres
          exact toNi (hcp.1 hb) hres
        · have ea : List.take out'.length sz = sz := by rw [← k3]; exact List.take_length
          have hres := rn_8 (d :: x) out.length c (d :: x).length out out'.length (-1) out' out'.length b out'.length sz hL0 hL2 (by decide) k5 hb (by omega) (by rw [ea]; exact digs_pS k2 (by omega))
          rw [ea] at hres
          exact toNi (hcp.2 hb) hres

end Go.Proofs.YtcpgkgldibobeaaGreatDoor
end

section
open Go Go.Ev Go.RowKit
namespace Go.Proofs.YtcpgkgldibobeaaGreatDoor
open Go.Proofs
set_option maxRecDepth 100000
set_option maxHeartbeats 1000000
set_option linter.unusedVariables false
set_option linter.unusedSimpArgs false
def ctrF3 : Ctr := (68, cL pNm (fun x => .ni (vl x))) :: ctrF2

theorem decNm {x : List Int} : True := trivial
theorem ctrF3_all : ∀ p ∈ ctrF3, CtrOK Tryz.prog p.1 p.2 := CAll.cons (cL_ok rNormal_fc) ctrF2_all
theorem okF3 : (mkCfg Tryz.prog ctrF3 bw).OK := cfg_ok ctrF3_all

theorem rne_0 (z : Int) (h1 : (↑(List.length (nform z)) : Int) > 0) (h2 : -9223372036854775808 ≤ (↑(List.length (nform z)) : Int) - 1 ∧ (↑(List.length (nform z)) : Int) - 1 ≤ 9223372036854775807) (h3 : 0 ≤ (↑(List.length (nform z)) : Int) - 1) (h4 : (↑(List.length (nform z)) : Int) - 1 < (↑(List.length (nform z)) : Int)) (h5 : Int.toNat ((↑(List.length (nform z)) : Int) - 1) < List.length (nform z)) : FC Tryz.prog 138 [.ni z] (AV.lit (Value.bool (decide (List.getD (nform z) (Int.toNat ((↑(List.length (nform z)) : Int) - 1)) 0 < 0)))) := fc_fun okF3 (show funA (mkCfg Tryz.prog ctrF3 bw) 60 138 [.ni z] [true] [] = some (AV.lit (Value.bool (decide (List.getD (nform z) (Int.toNat ((↑(List.length (nform z)) : Int) - 1)) 0 < 0))), ((decide ((↑(List.length (nform z)) : Int) > 0) = true) :: (inR IntKind.i64 ((↑(List.length (nform z)) : Int) - 1) = true) :: (decide (0 ≤ (↑(List.length (nform z)) : Int) - 1) = true) :: (decide ((↑(List.length (nform z)) : Int) - 1 < (↑(List.length (nform z)) : Int)) = true) :: (decide (Int.toNat ((↑(List.length (nform z)) : Int) - 1) < List.length (nform z)) = true) :: [])) by kernel_rfl) (AllC.cons (decide_eq_true h1) (AllC.cons (inR64.2 h2) (AllC.cons (decide_eq_true h3) (AllC.cons (decide_eq_true h4) (AllC.cons (decide_eq_true h5) AllC.nil)))))
theorem rne_1 (z : Int) (h1 : ¬ ((↑(List.length (nform z)) : Int) > 0)) : FC Tryz.prog 138 [.ni z] (AV.ff) := fc_fun okF3 (show funA (mkCfg Tryz.prog ctrF3 bw) 60 138 [.ni z] [false] [] = some (AV.ff, ((decide ((↑(List.length (nform z)) : Int) > 0) = false) :: [])) by kernel_rfl) (AllC.cons (decide_eq_false h1) AllC.nil)
theorem rle_0 (a b : Int) (h1 : (↑(List.length (nform a)) : Int) ≠ (↑(List.length (nform b)) : Int)) : FC Tryz.prog 170 [.ni a, .ni b] (AV.lit (Value.bool (decide ((↑(List.length (nform a)) : Int) < (↑(List.length (nform b)) : Int))))) := fc_fun okF3 (show funA (mkCfg Tryz.prog ctrF3 bw) 60 170 [.ni a, .ni b] [true] [] = some (AV.lit (Value.bool (decide ((↑(List.length (nform a)) : Int) < (↑(List.length (nform b)) : Int)))), ((((↑(List.length (nform a)) : Int) != (↑(List.length (nform b)) : Int)) = true) :: [])) by kernel_rfl) (AllC.cons (bne_iff_ne.2 h1) AllC.nil)
abbrev rle_L0 (s : St) (r : Ex × St) : Prop := Loops 0 Tryz.prog (lpOf Tryz.prog 170 0) s r
abbrev rle_L0_0 (z0 : Int) (z1 : Int) (t5 : Int) : St := ⟨sp 41 [(0, AV.ni z0), (1, AV.ni z1), (5, aI t5)], [], []⟩
abbrev rle_L0_E0 (z0 : Int) (z1 : Int) (b4 : Bool) : St := ⟨sp 41 [(4, AV.lit (Value.bool b4))], [], []⟩
abbrev rle_L0_E1 (z0 : Int) (z1 : Int) (t5 : Int) : St := ⟨sp 41 [(0, AV.ni z0), (1, AV.ni z1), (5, aI t5)], [], []⟩
theorem rle_L0_0_0 (z0 : Int) (z1 : Int) (t5 : Int) (h1 : t5 ≥ 0) (h2 : 0 ≤ t5) (h3 : t5 < (↑(List.length (nform z0)) : Int)) (h4 : Int.toNat t5 < List.length (nform z0)) (h5 : t5 < (↑(List.length (nform z1)) : Int)) (h6 : Int.toNat t5 < List.length (nform z1)) (h7 : List.getD (nform z0) (Int.toNat t5) 0 ≠ List.getD (nform z1) (Int.toNat t5) 0) : rle_L0 (rle_L0_0 z0 z1 t5) (Ex.ret, (rle_L0_E0 z0 z1 (decide (List.getD (nform z0) (Int.toNat t5) 0 < List.getD (nform z1) (Int.toNat t5) 0)))) := Loops.fin (LS.of okF3 (show rndA (mkCfg Tryz.prog ctrF3 bw) 60 (lpOf Tryz.prog 170 0) 0 [] [4] [] (rle_L0_0 z0 z1 t5) [true, true] [] = some (Ex.ret, (rle_L0_E0 z0 z1 (decide (List.getD (nform z0) (Int.toNat t5) 0 < List.getD (nform z1) (Int.toNat t5) 0))), ((decide (t5 ≥ 0) = true) :: (decide (0 ≤ t5) = true) :: (decide (t5 < (↑(List.length (nform z0)) : Int)) = true) :: (decide (Int.toNat t5 < List.length (nform z0)) = true) :: (decide (0 ≤ t5) = true) :: (decide (t5 < (↑(List.length (nform z1)) : Int)) = true) :: (decide (Int.toNat t5 < List.length (nform z1)) = true) :: ((List.getD (nform z0) (Int.toNat t5) 0 != List.getD (nform z1) (Int.toNat t5) 0) = true) :: (decide (0 ≤ t5) = true) :: (decide (t5 < (↑(List.length (nform z0)) : Int)) = true) :: (decide (Int.toNat t5 < List.length (nform z0)) = true) :: (decide (0 ≤ t5) = true) :: (decide (t5 < (↑(List.length (nform z1)) : Int)) = true) :: (decide (Int.toNat t5 < List.length (nform z1)) = true) :: [])) by kernel_rfl) (AllC.cons (decide_eq_true h1) (AllC.cons (decide_eq_true h2) (AllC.cons (decide_eq_true h3) (AllC.cons (decide_eq_true h4) (AllC.cons (decide_eq_true h2) (AllC.cons (decide_eq_true h5) (AllC.cons (decide_eq_true h6) (AllC.cons (bne_iff_ne.2 h7) (AllC.cons (decide_eq_true h2) (AllC.cons (decide_eq_true h3) (AllC.cons (decide_eq_true h4) (AllC.cons (decide_eq_true h2) (AllC.cons (decide_eq_true h5) (AllC.cons (decide_eq_true h6) AllC.nil))))))))))))))) (fun h => nomatch h)
theorem rle_L0_0_1 (z0 : Int) (z1 : Int) (t5 : Int) (h1 : t5 ≥ 0) (h2 : 0 ≤ t5) (h3 : t5 < (↑(List.length (nform z0)) : Int)) (h4 : Int.toNat t5 < List.length (nform z0)) (h5 : t5 < (↑(List.length (nform z1)) : Int)) (h6 : Int.toNat t5 < List.length (nform z1)) (h7 : List.getD (nform z0) (Int.toNat t5) 0 = List.getD (nform z1) (Int.toNat t5) 0) (h8 : -9223372036854775808 ≤ t5 - 1 ∧ t5 - 1 ≤ 9223372036854775807) {r : Ex × St} (k : rle_L0 (rle_L0_0 z0 z1 (t5 - 1)) r) : rle_L0 (rle_L0_0 z0 z1 t5) r := Loops.go (LS.of okF3 (show rndA (mkCfg Tryz.prog ctrF3 bw) 60 (lpOf Tryz.prog 170 0) 0 [] [0, 1, 5] [] (rle_L0_0 z0 z1 t5) [true, false] [] = some (Ex.normal, (rle_L0_0 z0 z1 (t5 - 1)), ((decide (t5 ≥ 0) = true) :: (decide (0 ≤ t5) = true) :: (decide (t5 < (↑(List.length (nform z0)) : Int)) = true) :: (decide (Int.toNat t5 < List.length (nform z0)) = true) :: (decide (0 ≤ t5) = true) :: (decide (t5 < (↑(List.length (nform z1)) : Int)) = true) :: (decide (Int.toNat t5 < List.length (nform z1)) = true) :: ((List.getD (nform z0) (Int.toNat t5) 0 != List.getD (nform z1) (Int.toNat t5) 0) = false) :: (inR IntKind.i64 (t5 - 1) = true) :: [])) by kernel_rfl) (AllC.cons (decide_eq_true h1) (AllC.cons (decide_eq_true h2) (AllC.cons (decide_eq_true h3) (AllC.cons (decide_eq_true h4) (AllC.cons (decide_eq_true h2) (AllC.cons (decide_eq_true h5) (AllC.cons (decide_eq_true h6) (AllC.cons (bne_eq_false_iff_eq.2 h7) (AllC.cons (inR64.2 h8) AllC.nil)))))))))) k
theorem rle_L0_0_2 (z0 : Int) (z1 : Int) (t5 : Int) (h1 : ¬ (t5 ≥ 0)) : rle_L0 (rle_L0_0 z0 z1 t5) (Ex.exit 0, (rle_L0_E1 z0 z1 t5)) := Loops.fin (LS.of okF3 (show rndA (mkCfg Tryz.prog ctrF3 bw) 60 (lpOf Tryz.prog 170 0) 0 [] [0, 1, 5] [] (rle_L0_0 z0 z1 t5) [false] [] = some (Ex.exit 0, (rle_L0_E1 z0 z1 t5), ((decide (t5 ≥ 0) = false) :: [])) by kernel_rfl) (AllC.cons (decide_eq_false h1) AllC.nil)) (fun h => nomatch h)
theorem rle_1 (a b : Int) (b4 : Bool) (h1 : (↑(List.length (nform a)) : Int) = (↑(List.length (nform b)) : Int)) (h2 : -9223372036854775808 ≤ (↑(List.length (nform a)) : Int) - 1 ∧ (↑(List.length (nform a)) : Int) - 1 ≤ 9223372036854775807) (hL1 : rle_L0 (rle_L0_0 a b ((↑(List.length (nform a)) : Int) - 1)) (Ex.ret, (rle_L0_E0 a b b4))) : FC Tryz.prog 170 [.ni a, .ni b] (AV.lit (Value.bool b4)) := fc_fun okF3 (show funA (mkCfg Tryz.prog ctrF3 bw) 60 170 [.ni a, .ni b] [false] [some (viaL Tryz.prog (lpOf Tryz.prog 170 0) [] [0, 1, 5] [] (rle_L0_0 a b ((↑(List.length (nform a)) : Int) - 1)) (Ex.ret, (rle_L0_E0 a b b4)))] = some (AV.lit (Value.bool b4), ((((↑(List.length (nform a)) : Int) != (↑(List.length (nform b)) : Int)) = false) :: (inR IntKind.i64 ((↑(List.length (nform a)) : Int) - 1) = true) :: viaC Tryz.prog (lpOf Tryz.prog 170 0) [0, 1, 5] [] (rle_L0_0 a b ((↑(List.length (nform a)) : Int) - 1)) 0 (Ex.ret, (rle_L0_E0 a b b4)) ([]))) by kernel_rfl) (AllC.cons (bne_eq_false_iff_eq.2 h1) (AllC.cons (inR64.2 h2) (AllC.via hL1 AllC.nil)))
theorem rle_2 (a b : Int) (t5 : Int) (h1 : (↑(List.length (nform a)) : Int) = (↑(List.length (nform b)) : Int)) (h2 : -9223372036854775808 ≤ (↑(List.length (nform a)) : Int) - 1 ∧ (↑(List.length (nform a)) : Int) - 1 ≤ 9223372036854775807) (hL1 : rle_L0 (rle_L0_0 a b ((↑(List.length (nform a)) : Int) - 1)) (Ex.exit 0, (rle_L0_E1 a b t5))) : FC Tryz.prog 170 [.ni a, .ni b] (AV.ff) := fc_fun okF3 (show funA (mkCfg Tryz.prog ctrF3 bw) 60 170 [.ni a, .ni b] [false] [some (viaL Tryz.prog (lpOf Tryz.prog 170 0) [] [0, 1, 5] [] (rle_L0_0 a b ((↑(List.length (nform a)) : Int) - 1)) (Ex.exit 0, (rle_L0_E1 a b t5)))] = some (AV.ff, ((((↑(List.length (nform a)) : Int) != (↑(List.length (nform b)) : Int)) = false) :: (inR IntKind.i64 ((↑(List.length (nform a)) : Int) - 1) = true) :: viaC Tryz.prog (lpOf Tryz.prog 170 0) [0, 1, 5] [] (rle_L0_0 a b ((↑(List.length (nform a)) : Int) - 1)) 0 (Ex.exit 0, (rle_L0_E1 a b t5)) ([]))) by kernel_rfl) (AllC.cons (bne_eq_false_iff_eq.2 h1) (AllC.cons (inR64.2 h2) (AllC.via hL1 AllC.nil)))
abbrev rad_L0 (s : St) (r : Ex × St) : Prop := Loops 0 Tryz.prog (lpOf Tryz.prog 70 0) s r
abbrev rad_L0_0 (z0 : Int) (z1 : Int) : St := ⟨sp 48 [(0, AV.ni z0), (1, AV.ni z1), (5, aN), (6, aI 0)], [], []⟩
abbrev rad_L0_1 (z0 : Int) (z1 : Int) (n5 : Nat) (t6 : Int) (lr0 : List Int) : St := ⟨sp 48 [(0, AV.ni z0), (1, AV.ni z1), (5, AV.own 0 0 n5 1), (6, aI t6)], [Row.ints lr0 true], []⟩
abbrev rad_L0_E0 (z0 : Int) (z1 : Int) : St := ⟨sp 48 [(0, AV.ni z0), (1, AV.ni z1), (5, aN), (6, aI 0)], [], []⟩
abbrev rad_L0_E1 (z0 : Int) (z1 : Int) (n5 : Nat) (t6 : Int) (lr0 : List Int) : St := ⟨sp 48 [(0, AV.ni z0), (1, AV.ni z1), (5, AV.own 0 0 n5 1), (6, aI t6)], [Row.ints lr0 true], []⟩
theorem rad_L0_0_0 (z0 : Int) (z1 : Int) (h1 : 0 < (↑(List.length (nform z0)) : Int)) (h2 : 0 < List.length (nform z0)) (h3 : 0 < (↑(List.length (nform z1)) : Int)) (h4 : 0 < List.length (nform z1)) (h5 : -9223372036854775808 ≤ List.getD (nform z0) 0 0 + List.getD (nform z1) 0 0 ∧ List.getD (nform z0) 0 0 + List.getD (nform z1) 0 0 ≤ 9223372036854775807) {r : Ex × St} (k : rad_L0 (rad_L0_1 z0 z1 (1) (1) ([List.getD (nform z0) 0 0 + List.getD (nform z1) 0 0])) r) : rad_L0 (rad_L0_0 z0 z1) r := Loops.go (LS.of okF3 (show rndA (mkCfg Tryz.prog ctrF3 bw) 60 (lpOf Tryz.prog 70 0) 0 [1] [0, 1, 5, 6] [] (rad_L0_0 z0 z1) [true, true, true] [] = some (Ex.normal, (rad_L0_1 z0 z1 (1) (1) ([List.getD (nform z0) 0 0 + List.getD (nform z1) 0 0])), ((decide (0 < (↑(List.length (nform z0)) : Int)) = true) :: (decide (0 < (↑(List.length (nform z0)) : Int)) = true) :: ttC 1 ((decide (0 < (↑(List.length (nform z0)) : Int)) = true) :: (decide (0 < List.length (nform z0)) = true) :: (decide (0 < (↑(List.length (nform z1)) : Int)) = true) :: ttC 1 ((decide (0 < (↑(List.length (nform z1)) : Int)) = true) :: (decide (0 < List.length (nform z1)) = true) :: (inR IntKind.i64 (List.getD (nform z0) 0 0 + List.getD (nform z1) 0 0) = true) :: ttC 3 ((decide (List.length (List.take 1 [List.getD (nform z0) 0 0 + List.getD (nform z1) 0 0]) = 1) = true) :: ttC 1 ([])))))) by kernel_rfl) (AllC.cons (decide_eq_true h1) (AllC.cons (decide_eq_true h1) (AllC.tt 1 (AllC.cons (decide_eq_true h1) (AllC.cons (decide_eq_true h2) (AllC.cons (decide_eq_true h3) (AllC.tt 1 (AllC.cons (decide_eq_true h3) (AllC.cons (decide_eq_true h4) (AllC.cons (inR64.2 h5) (AllC.tt 3 (AllC.cons (decide_eq_true rfl) (AllC.tt 1 AllC.nil)))))))))))))) k
theorem rad_L0_0_1 (z0 : Int) (z1 : Int) (h1 : 0 < (↑(List.length (nform z0)) : Int)) (h2 : 0 < List.length (nform z0)) (h3 : ¬ (0 < (↑(List.length (nform z1)) : Int))) {r : Ex × St} (k : rad_L0 (rad_L0_1 z0 z1 (1) (1) ([List.getD (nform z0) 0 0])) r) : rad_L0 (rad_L0_0 z0 z1) r := Loops.go (LS.of okF3 (show rndA (mkCfg Tryz.prog ctrF3 bw) 60 (lpOf Tryz.prog 70 0) 0 [1] [0, 1, 5, 6] [] (rad_L0_0 z0 z1) [true, true, false] [] = some (Ex.normal, (rad_L0_1 z0 z1 (1) (1) ([List.getD (nform z0) 0 0])), ((decide (0 < (↑(List.length (nform z0)) : Int)) = true) :: (decide (0 < (↑(List.length (nform z0)) : Int)) = true) :: ttC 1 ((decide (0 < (↑(List.length (nform z0)) : Int)) = true) :: (decide (0 < List.length (nform z0)) = true) :: (decide (0 < (↑(List.length (nform z1)) : Int)) = false) :: ttC 3 ((decide (List.length (List.take 1 [List.getD (nform z0) 0 0]) = 1) = true) :: ttC 1 ([]))))) by kernel_rfl) (AllC.cons (decide_eq_true h1) (AllC.cons (decide_eq_true h1) (AllC.tt 1 (AllC.cons (decide_eq_true h1) (AllC.cons (decide_eq_true h2) (AllC.cons (decide_eq_false h3) (AllC.tt 3 (AllC.cons (decide_eq_true rfl) (AllC.tt 1 AllC.nil)))))))))) k
theorem rad_L0_0_2 (z0 : Int) (z1 : Int) (h1 : ¬ (0 < (↑(List.length (nform z0)) : Int))) (h2 : 0 < (↑(List.length (nform z1)) : Int)) (h3 : 0 < List.length (nform z1)) (h4 : -9223372036854775808 ≤ 0 + List.getD (nform z1) 0 0 ∧ 0 + List.getD (nform z1) 0 0 ≤ 9223372036854775807) {r : Ex × St} (k : rad_L0 (rad_L0_1 z0 z1 (1) (1) ([0 + List.getD (nform z1) 0 0])) r) : rad_L0 (rad_L0_0 z0 z1) r := Loops.go (LS.of okF3 (show rndA (mkCfg Tryz.prog ctrF3 bw) 60 (lpOf Tryz.prog 70 0) 0 [1] [0, 1, 5, 6] [] (rad_L0_0 z0 z1) [false, true, false, true] [] = some (Ex.normal, (rad_L0_1 z0 z1 (1) (1) ([0 + List.getD (nform z1) 0 0])), ((decide (0 < (↑(List.length (nform z0)) : Int)) = false) :: (decide (0 < (↑(List.length (nform z1)) : Int)) = true) :: (decide (0 < (↑(List.length (nform z0)) : Int)) = false) :: (decide (0 < (↑(List.length (nform z1)) : Int)) = true) :: ttC 1 ((decide (0 < (↑(List.length (nform z1)) : Int)) = true) :: (decide (0 < List.length (nform z1)) = true) :: (inR IntKind.i64 (0 + List.getD (nform z1) 0 0) = true) :: ttC 3 ((decide (List.length (List.take 1 [0 + List.getD (nform z1) 0 0]) = 1) = true) :: ttC 1 ([]))))) by kernel_rfl) (AllC.cons (decide_eq_false h1) (AllC.cons (decide_eq_true h2) (AllC.cons (decide_eq_false h1) (AllC.cons (decide_eq_true h2) (AllC.tt 1 (AllC.cons (decide_eq_true h2) (AllC.cons (decide_eq_true h3) (AllC.cons (inR64.2 h4) (AllC.tt 3 (AllC.cons (decide_eq_true rfl) (AllC.tt 1 AllC.nil)))))))))))) k
theorem rad_L0_0_3 (z0 : Int) (z1 : Int) (h1 : ¬ (0 < (↑(List.length (nform z0)) : Int))) (h2 : ¬ (0 < (↑(List.length (nform z1)) : Int))) : rad_L0 (rad_L0_0 z0 z1) (Ex.exit 0, (rad_L0_E0 z0 z1)) := Loops.fin (LS.of okF3 (show rndA (mkCfg Tryz.prog ctrF3 bw) 60 (lpOf Tryz.prog 70 0) 0 [] [0, 1, 5, 6] [] (rad_L0_0 z0 z1) [false, false] [] = some (Ex.exit 0, (rad_L0_E0 z0 z1), ((decide (0 < (↑(List.length (nform z0)) : Int)) = false) :: (decide (0 < (↑(List.length (nform z1)) : Int)) = false) :: [])) by kernel_rfl) (AllC.cons (decide_eq_false h1) (AllC.cons (decide_eq_false h2) AllC.nil))) (fun h => nomatch h)
theorem rad_L0_1_0 (z0 : Int) (z1 : Int) (n5 : Nat) (t6 : Int) (lr0 : List Int) (h1 : t6 < (↑(List.length (nform z0)) : Int)) (h2 : 0 ≤ t6) (h3 : Int.toNat t6 < List.length (nform z0)) (h4 : t6 < (↑(List.length (nform z1)) : Int)) (h5 : Int.toNat t6 < List.length (nform z1)) (h6 : -9223372036854775808 ≤ List.getD (nform z0) (Int.toNat t6) 0 + List.getD (nform z1) (Int.toNat t6) 0 ∧ List.getD (nform z0) (Int.toNat t6) 0 + List.getD (nform z1) (Int.toNat t6) 0 ≤ 9223372036854775807) (h7 : (n5 + 1) * 8 ≤ 140737488355328) (h8 : n5 + 1 ≤ 4611686018427387904) (h9 : n5 ≤ List.length lr0) (h10 : -9223372036854775808 ≤ t6 + 1 ∧ t6 + 1 ≤ 9223372036854775807) {r : Ex × St} (k : rad_L0 (rad_L0_1 z0 z1 (n5 + 1) (t6 + 1) (List.take n5 lr0 ++ List.take 1 [List.getD (nform z0) (Int.toNat t6) 0 + List.getD (nform z1) (Int.toNat t6) 0])) r) : rad_L0 (rad_L0_1 z0 z1 n5 t6 lr0) r := Loops.go (LS.of okF3 (show rndA (mkCfg Tryz.prog ctrF3 bw) 60 (lpOf Tryz.prog 70 0) 0 [2] [0, 1, 5, 6] [] (rad_L0_1 z0 z1 n5 t6 lr0) [true, true, true] [] = some (Ex.normal, (rad_L0_1 z0 z1 (n5 + 1) (t6 + 1) (List.take n5 lr0 ++ List.take 1 [List.getD (nform z0) (Int.toNat t6) 0 + List.getD (nform z1) (Int.toNat t6) 0])), ((decide (t6 < (↑(List.length (nform z0)) : Int)) = true) :: (decide (t6 < (↑(List.length (nform z0)) : Int)) = true) :: (decide (0 ≤ t6) = true) :: (decide (t6 < (↑(List.length (nform z0)) : Int)) = true) :: (decide (Int.toNat t6 < List.length (nform z0)) = true) :: (decide (t6 < (↑(List.length (nform z1)) : Int)) = true) :: (decide (0 ≤ t6) = true) :: (decide (t6 < (↑(List.length (nform z1)) : Int)) = true) :: (decide (Int.toNat t6 < List.length (nform z1)) = true) :: (inR IntKind.i64 (List.getD (nform z0) (Int.toNat t6) 0 + List.getD (nform z1) (Int.toNat t6) 0) = true) :: (decide ((n5 + 1) * 8 ≤ 140737488355328) = true) :: (decide (n5 + 1 ≤ 4611686018427387904) = true) :: (decide (n5 ≤ List.length lr0) = true) :: (decide (List.length (List.take 1 [List.getD (nform z0) (Int.toNat t6) 0 + List.getD (nform z1) (Int.toNat t6) 0]) = 1) = true) :: (inR IntKind.i64 (t6 + 1) = true) :: [])) by kernel_rfl) (AllC.cons (decide_eq_true h1) (AllC.cons (decide_eq_true h1) (AllC.cons (decide_eq_true h2) (AllC.cons (decide_eq_true h1) (AllC.cons (decide_eq_true h3) (AllC.cons (decide_eq_true h4) (AllC.cons (decide_eq_true h2) (AllC.cons (decide_eq_true h4) (AllC.cons (decide_eq_true h5) (AllC.cons (inR64.2 h6) (AllC.cons (decide_eq_true h7) (AllC.cons (decide_eq_true h8) (AllC.cons (decide_eq_true h9) (AllC.cons (decide_eq_true rfl) (AllC.cons (inR64.2 h10) AllC.nil)))))))))))))))) k
theorem rad_L0_1_1 (z0 : Int) (z1 : Int) (n5 : Nat) (t6 : Int) (lr0 : List Int) (h1 : t6 < (↑(List.length (nform z0)) : Int)) (h2 : 0 ≤ t6) (h3 : Int.toNat t6 < List.length (nform z0)) (h4 : ¬ (t6 < (↑(List.length (nform z1)) : Int))) (h5 : (n5 + 1) * 8 ≤ 140737488355328) (h6 : n5 + 1 ≤ 4611686018427387904) (h7 : n5 ≤ List.length lr0) (h8 : -9223372036854775808 ≤ t6 + 1 ∧ t6 + 1 ≤ 9223372036854775807) {r : Ex × St} (k : rad_L0 (rad_L0_1 z0 z1 (n5 + 1) (t6 + 1) (List.take n5 lr0 ++ List.take 1 [List.getD (nform z0) (Int.toNat t6) 0])) r) : rad_L0 (rad_L0_1 z0 z1 n5 t6 lr0) r := Loops.go (LS.of okF3 (show rndA (mkCfg Tryz.prog ctrF3 bw) 60 (lpOf Tryz.prog 70 0) 0 [2] [0, 1, 5, 6] [] (rad_L0_1 z0 z1 n5 t6 lr0) [true, true, false] [] = some (Ex.normal, (rad_L0_1 z0 z1 (n5 + 1) (t6 + 1) (List.take n5 lr0 ++ List.take 1 [List.getD (nform z0) (Int.toNat t6) 0])), ((decide (t6 < (↑(List.length (nform z0)) : Int)) = true) :: (decide (t6 < (↑(List.length (nform z0)) : Int)) = true) :: (decide (0 ≤ t6) = true) :: (decide (t6 < (↑(List.length (nform z0)) : Int)) = true) :: (decide (Int.toNat t6 < List.length (nform z0)) = true) :: (decide (t6 < (↑(List.length (nform z1)) : Int)) = false) :: (decide ((n5 + 1) * 8 ≤ 140737488355328) = true) :: (decide (n5 + 1 ≤ 4611686018427387904) = true) :: (decide (n5 ≤ List.length lr0) = true) :: (decide (List.length (List.take 1 [List.getD (nform z0) (Int.toNat t6) 0]) = 1) = true) :: (inR IntKind.i64 (t6 + 1) = true) :: [])) by kernel_rfl) (AllC.cons (decide_eq_true h1) (AllC.cons (decide_eq_true h1) (AllC.cons (decide_eq_true h2) (AllC.cons (decide_eq_true h1) (AllC.cons (decide_eq_true h3) (AllC.cons (decide_eq_false h4) (AllC.cons (decide_eq_true h5) (AllC.cons (decide_eq_true h6) (AllC.cons (decide_eq_true h7) (AllC.cons (decide_eq_true rfl) (AllC.cons (inR64.2 h8) AllC.nil)))))))))))) k
theorem rad_L0_1_2 (z0 : Int) (z1 : Int) (n5 : Nat) (t6 : Int) (lr0 : List Int) (h1 : ¬ (t6 < (↑(List.length (nform z0)) : Int))) (h2 : t6 < (↑(List.length (nform z1)) : Int)) (h3 : 0 ≤ t6) (h4 : Int.toNat t6 < List.length (nform z1)) (h5 : -9223372036854775808 ≤ 0 + List.getD (nform z1) (Int.toNat t6) 0 ∧ 0 + List.getD (nform z1) (Int.toNat t6) 0 ≤ 9223372036854775807) (h6 : (n5 + 1) * 8 ≤ 140737488355328) (h7 : n5 + 1 ≤ 4611686018427387904) (h8 : n5 ≤ List.length lr0) (h9 : -9223372036854775808 ≤ t6 + 1 ∧ t6 + 1 ≤ 9223372036854775807) {r : Ex × St} (k : rad_L0 (rad_L0_1 z0 z1 (n5 + 1) (t6 + 1) (List.take n5 lr0 ++ List.take 1 [0 + List.getD (nform z1) (Int.toNat t6) 0])) r) : rad_L0 (rad_L0_1 z0 z1 n5 t6 lr0) r := Loops.go (LS.of okF3 (show rndA (mkCfg Tryz.prog ctrF3 bw) 60 (lpOf Tryz.prog 70 0) 0 [2] [0, 1, 5, 6] [] (rad_L0_1 z0 z1 n5 t6 lr0) [false, true, false, true] [] = some (Ex.normal, (rad_L0_1 z0 z1 (n5 + 1) (t6 + 1) (List.take n5 lr0 ++ List.take 1 [0 + List.getD (nform z1) (Int.toNat t6) 0])), ((decide (t6 < (↑(List.length (nform z0)) : Int)) = false) :: (decide (t6 < (↑(List.length (nform z1)) : Int)) = true) :: (decide (t6 < (↑(List.length (nform z0)) : Int)) = false) :: (decide (t6 < (↑(List.length (nform z1)) : Int)) = true) :: (decide (0 ≤ t6) = true) :: (decide (t6 < (↑(List.length (nform z1)) : Int)) = true) :: (decide (Int.toNat t6 < List.length (nform z1)) = true) :: (inR IntKind.i64 (0 + List.getD (nform z1) (Int.toNat t6) 0) = true) :: (decide ((n5 + 1) * 8 ≤ 140737488355328) = true) :: (decide (n5 + 1 ≤ 4611686018427387904) = true) :: (decide (n5 ≤ List.length lr0) = true) :: (decide (List.length (List.take 1 [0 + List.getD (nform z1) (Int.toNat t6) 0]) = 1) = true) :: (inR IntKind.i64 (t6 + 1) = true) :: [])) by kernel_rfl) (AllC.cons (decide_eq_false h1) (AllC.cons (decide_eq_true h2) (AllC.cons (decide_eq_false h1) (AllC.cons (decide_eq_true h2) (AllC.cons (decide_eq_true h3) (AllC.cons (decide_eq_true h2) (AllC.cons (decide_eq_true h4) (AllC.cons (inR64.2 h5) (AllC.cons (decide_eq_true h6) (AllC.cons (decide_eq_true h7) (AllC.cons (decide_eq_true h8) (AllC.cons (decide_eq_true rfl) (AllC.cons (inR64.2 h9) AllC.nil)))))))))))))) k
theorem rad_L0_1_3 (z0 : Int) (z1 : Int) (n5 : Nat) (t6 : Int) (lr0 : List Int) (h1 : ¬ (t6 < (↑(List.length (nform z0)) : Int))) (h2 : ¬ (t6 < (↑(List.length (nform z1)) : Int))) : rad_L0 (rad_L0_1 z0 z1 n5 t6 lr0) (Ex.exit 0, (rad_L0_E1 z0 z1 n5 t6 lr0)) := Loops.fin (LS.of okF3 (show rndA (mkCfg Tryz.prog ctrF3 bw) 60 (lpOf Tryz.prog 70 0) 0 [0] [0, 1, 5, 6] [] (rad_L0_1 z0 z1 n5 t6 lr0) [false, false] [] = some (Ex.exit 0, (rad_L0_E1 z0 z1 n5 t6 lr0), ((decide (t6 < (↑(List.length (nform z0)) : Int)) = false) :: (decide (t6 < (↑(List.length (nform z1)) : Int)) = false) :: [])) by kernel_rfl) (AllC.cons (decide_eq_false h1) (AllC.cons (decide_eq_false h2) AllC.nil))) (fun h => nomatch h)
theorem rad_0 (x y : List Int) (h1 : pNm x) (h2 : pNm y) (hL1 : rad_L0 (rad_L0_0 (vl x) (vl y)) (Ex.exit 0, (rad_L0_E0 (vl x) (vl y)))) (h4 : pNm []) : FC Tryz.prog 70 [.sq x, .sq y] (AV.ni 0) := fc_fun okF3 (show funA (mkCfg Tryz.prog ctrF3 bw) 60 70 [.sq x, .sq y] [] [some (viaL Tryz.prog (lpOf Tryz.prog 70 0) [] [0, 1, 5, 6] [] (rad_L0_0 (vl x) (vl y)) (Ex.exit 0, (rad_L0_E0 (vl x) (vl y))))] = some (AV.ni 0, ((pNm x) :: (pNm y) :: viaC Tryz.prog (lpOf Tryz.prog 70 0) [0, 1, 5, 6] [] (rad_L0_0 (vl x) (vl y)) 0 (Ex.exit 0, (rad_L0_E0 (vl x) (vl y))) ((pNm []) :: []))) by kernel_rfl) (AllC.cons (h1) (AllC.cons (h2) (AllC.via hL1 (AllC.cons (h4) AllC.nil))))
theorem rad_1 (x y : List Int) (n5 : Nat) (t6 : Int) (lr0 : List Int) (h1 : pNm x) (h2 : pNm y) (hL1 : rad_L0 (rad_L0_0 (vl x) (vl y)) (Ex.exit 0, (rad_L0_E1 (vl x) (vl y) n5 t6 lr0))) (h4 : n5 ≤ List.length lr0) (h5 : pNm (List.take n5 lr0)) : FC Tryz.prog 70 [.sq x, .sq y] (AV.ni (vl (List.take n5 lr0))) := fc_fun okF3 (show funA (mkCfg Tryz.prog ctrF3 bw) 60 70 [.sq x, .sq y] [] [some (viaL Tryz.prog (lpOf Tryz.prog 70 0) [] [0, 1, 5, 6] [] (rad_L0_0 (vl x) (vl y)) (Ex.exit 0, (rad_L0_E1 (vl x) (vl y) n5 t6 lr0)))] = some (AV.ni (vl (List.take n5 lr0)), ((pNm x) :: (pNm y) :: viaC Tryz.prog (lpOf Tryz.prog 70 0) [0, 1, 5, 6] [] (rad_L0_0 (vl x) (vl y)) 0 (Ex.exit 0, (rad_L0_E1 (vl x) (vl y) n5 t6 lr0)) ((n5 ≤ List.length lr0) :: (pNm (List.take n5 lr0)) :: []))) by kernel_rfl) (AllC.cons (h1) (AllC.cons (h2) (AllC.via hL1 (AllC.cons (h4) (AllC.cons (h5) AllC.nil)))))
/-- How long a normal form is. -/
theorem nform_length (z : Int) : (nform z).length = dl z := by
  unfold nform dl
  split <;> simp
theorem dl_le {k : Nat} {z : Int} (h : Sz k z) : dl z ≤ k := digs_length _ _ h
theorem nform_dig (z : Int) : ∀ d ∈ nform z, -100000000 < d ∧ d < 100000000 := by
  intro d hd
  have h := Digs_digs z.natAbs
  unfold nform at hd
  split at hd
  · obtain ⟨e, he, rfl⟩ := List.mem_map.1 hd
    have := h e he; omega
  · have := h d hd; omega
theorem nform_getD (z : Int) (i : Nat) : -100000000 < (nform z).getD i 0 ∧ (nform z).getD i 0 < 100000000 := by
  by_cases h : i < (nform z).length
  · exact nform_dig z _ (by simp [List.getD, h])
  · have : (nform z).getD i 0 = 0 := by simp [List.getD, Nat.le_of_not_lt h]
    rw [this]; omega
theorem dl_zero {z : Int} : dl z = 0 ↔ z = 0 := by
  unfold dl
  rw [List.length_eq_zero_iff, digs_nil]; omega
/-- The last digit. -/
theorem digs_last {n : Nat} (h : n ≠ 0) : 0 < (digs n).getD ((digs n).length - 1) 0 := by
  induction n using Nat.strongRecOn with
  | _ n ih =>
    rw [digs_step n h]
    by_cases h1 : n / 100000000 = 0
    · rw [h1, digs_zero]; simp; omega
    · have := ih (n / 100000000) (by omega) h1
      have hl : (digs (n / 100000000)).length ≠ 0 := by rw [ne_eq, List.length_eq_zero_iff, digs_nil]; exact h1
      have e : (((n % 100000000 : Nat) : Int) :: digs (n / 100000000)).length - 1 = (digs (n / 100000000)).length - 1 + 1 := by simp; omega
      rw [e, List.getD_cons_succ]; exact this
theorem nform_last {z : Int} (h : z ≠ 0) : (decide ((nform z).getD ((nform z).length - 1) 0 < 0)) = decide (z < 0) := by
  have h1 := digs_last (n := z.natAbs) (by omega)
  unfold nform
  by_cases hz : z < 0
  · rw [if_pos hz, decide_eq_true hz, List.length_map]
    have hlt : (digs z.natAbs).length - 1 < (digs z.natAbs).length := by
      have : (digs z.natAbs).length ≠ 0 := by rw [ne_eq, List.length_eq_zero_iff, digs_nil]; omega
      omega
    have : ((digs z.natAbs).map fun d => -d).getD ((digs z.natAbs).length - 1) 0 = -((digs z.natAbs).getD ((digs z.natAbs).length - 1) 0) := by
      simp [List.getD, hlt]
    rw [this]
    exact decide_eq_true (by omega)
  · rw [if_neg hz, decide_eq_false hz]
    exact decide_eq_false (by omega)
def pNg (z : Int) : Prop := Sz 1000000 z
instance tNg {z : Int} : Tst (pNg z) := inferInstanceAs (Tst (Sz 1000000 z))
theorem rNegative_fc (z : Int) (h : pNg z) : FC Tryz.prog 138 [.ni z] (.lit (.bool (decide (z < 0)))) := by
  have hl := dl_le h
  by_cases hz : z = 0
  · subst hz
    have := rne_1 0 (by rw [nform_length]; simp [dl, digs_zero])
    exact this.res fun E v hv => by cases hv; exact .lit _
  · have hd : dl z ≠ 0 := fun h => hz (dl_zero.1 h)
    have := rne_0 z (by rw [nform_length]; omega) (by rw [nform_length]; omega) (by rw [nform_length]; omega) (by omega) (by rw [nform_length]; omega)
    have e : Int.toNat (((nform z).length : Int) - 1) = (nform z).length - 1 := by rw [nform_length]; omega
    rw [e, nform_last hz] at this
    exact this

/-! ### Comparing sizes -/
theorem rl_loop (a b : Int) (ha : 0 ≤ a) (hb : 0 ≤ b) (hl : dl a = dl b) (hs : dl a ≤ 1000000) : ∀ (i : Nat), i ≤ dl a → (nform a).drop i = (nform b).drop i →
    (a = b ∧ rle_L0 (rle_L0_0 a b ((i : Int) - 1)) (.exit 0, rle_L0_E1 a b (-1))) ∨ (a ≠ b ∧ rle_L0 (rle_L0_0 a b ((i : Int) - 1)) (.ret, rle_L0_E0 a b (decide (a < b))))
  | 0, _, hd => .inl ⟨by rw [← nform_vl a, ← nform_vl b]; simpa using congrArg vl hd, rle_L0_0_2 a b _ (by omega)⟩
  | i + 1, hi, hd => by
    have la := nform_length a
    have lb := nform_length b
    have hn : Int.toNat (((i + 1 : Nat) : Int) - 1) = i := by omega
    have hc : ((i + 1 : Nat) : Int) - 1 = (i : Int) := by omega
    have hia : i < (nform a).length := by omega
    have hib : i < (nform b).length := by omega
    have ea : (nform a).drop i = (nform a).getD i 0 :: (nform a).drop (i + 1) := by rw [List.drop_eq_getElem_cons hia]; simp [List.getD, hia]
    have eb : (nform b).drop i = (nform b).getD i 0 :: (nform b).drop (i + 1) := by rw [List.drop_eq_getElem_cons hib]; simp [List.getD, hib]
    rw [hc]
    have hn' : Int.toNat (i : Int) = i := by omega
    by_cases h : (nform a).getD i 0 = (nform b).getD i 0
    · rcases rl_loop a b ha hb hl hs i (by omega) (by rw [ea, eb, h, hd]) with ⟨h1, h2⟩ | ⟨h1, h2⟩
      · exact .inl ⟨h1, rle_L0_0_1 a b i (by omega) (by omega) (by omega) (by omega) (by omega) (by omega) (by rw [hn']; exact h) (by omega) h2⟩
      · exact .inr ⟨h1, rle_L0_0_1 a b i (by omega) (by omega) (by omega) (by omega) (by omega) (by omega) (by rw [hn']; exact h) (by omega) h2⟩
    · have key : a ≠ b ∧ decide ((nform a).getD i 0 < (nform b).getD i 0) = decide (a < b) := by
        have ha' : nform a = digs a.natAbs := by unfold nform; rw [if_neg (by omega)]
        have hb' : nform b = digs b.natAbs := by unfold nform; rw [if_neg (by omega)]
        have hda : Digs (nform a) := by rw [ha']; exact Digs_digs _
        have hdb : Digs (nform b) := by rw [hb']; exact Digs_digs _
        have va : a = vl ((nform a).take i) + 100000000 ^ i * ((nform a).getD i 0 + 100000000 * vl ((nform a).drop (i + 1))) := by
          conv => lhs; rw [← nform_vl a, ← List.take_append_drop i (nform a), vl_append, ea]
          rw [List.length_take, Nat.min_eq_left (by omega)]; rfl
        have vb : b = vl ((nform b).take i) + 100000000 ^ i * ((nform b).getD i 0 + 100000000 * vl ((nform a).drop (i + 1))) := by
          conv => lhs; rw [← nform_vl b, ← List.take_append_drop i (nform b), vl_append, eb]
          rw [List.length_take, Nat.min_eq_left (by omega), hd]; rfl
        have t1 : Digs ((nform a).take i) := fun d h => hda d (List.mem_of_mem_take h)
        have t2 : Digs ((nform b).take i) := fun d h => hdb d (List.mem_of_mem_take h)
        have u1 := vl_lt t1
        have u2 := vl_lt t2
        have w1 := vl_nonneg t1
        have w2 := vl_nonneg t2
        rw [List.length_take, Nat.min_eq_left (by omega)] at u1 u2
        generalize vl ((nform a).drop (i + 1)) = V at va vb
        generalize (nform a).getD i 0 = p at va h ⊢
        generalize (nform b).getD i 0 = q at vb h ⊢
        generalize vl ((nform a).take i) = s at va u1 w1
        generalize vl ((nform b).take i) = t at vb u2 w2
        have pp := pow_pos i
        generalize (100000000 : Int) ^ i = P at *
        have hab : a - b = (s - t) + P * (p - q) := by rw [va, vb]; grind
        rcases Int.lt_or_gt_of_ne h with h1 | h1
        · have : P * (p - q) ≤ -P := by
            have := Int.mul_le_mul_of_nonneg_left (show p - q ≤ -1 by omega) (Int.le_of_lt pp)
            omega
          exact ⟨by omega, by rw [decide_eq_true h1]; exact (decide_eq_true (by omega)).symm⟩
        · have : P ≤ P * (p - q) := by
            have := Int.mul_le_mul_of_nonneg_left (show 1 ≤ p - q by omega) (Int.le_of_lt pp)
            omega
          exact ⟨by omega, by rw [decide_eq_false (by omega)]; exact (decide_eq_false (by omega)).symm⟩
      have := rle_L0_0_0 a b i (by omega) (by omega) (by omega) (by omega) (by omega) (by omega) (by rw [hn']; exact h)
      rw [hn', key.2] at this
      exact .inr ⟨key.1, this⟩
def pLes (a b : Int) : Prop := (0 ≤ a ∧ 0 ≤ b) ∧ Sz 1000000 a ∧ Sz 1000000 b
instance tLes {a b : Int} : Tst (pLes a b) := inferInstanceAs (Tst ((0 ≤ a ∧ 0 ≤ b) ∧ Sz 1000000 a ∧ Sz 1000000 b))
theorem lt_of_dl {a b : Int} (ha : 0 ≤ a) (hb : 0 ≤ b) (h : dl a < dl b) : a < b := by
  rcases Int.lt_or_le a b with h1 | h1
  · exact h1
  · exfalso
    have h2 := digs_lt a.natAbs
    have h3 : Sz (dl a) b := by
      unfold Sz
      have : b.natAbs ≤ a.natAbs := by omega
      exact Nat.lt_of_le_of_lt this h2
    have := dl_le h3
    omega
theorem rless_fc (a b : Int) (h : pLes a b) : FC Tryz.prog 170 [.ni a, .ni b] (.lit (.bool (decide (a < b)))) := by
  obtain ⟨⟨ha, hb⟩, sa, sb⟩ := h
  have la := nform_length a
  have lb := nform_length b
  have da := dl_le sa
  by_cases hl : dl a = dl b
  · have e : ((nform a).length : Int) - 1 = ((dl a : Nat) : Int) - 1 := by rw [la]
    rcases rl_loop a b ha hb hl da (dl a) (Nat.le_refl _) (by rw [List.drop_of_length_le (by omega), List.drop_of_length_le (by omega)]) with ⟨h1, h2⟩ | ⟨h1, h2⟩
    · rw [← e] at h2
      have := rle_2 a b _ (by omega) (by omega) h2
      refine this.res fun E v hv => ?_
      cases hv
      rw [decide_eq_false (by omega)]; exact .lit _
    · rw [← e] at h2
      exact rle_1 a b _ (by omega) (by omega) h2
  · have := rle_0 a b (by omega)
    refine this.res fun E v hv => ?_
    have e : decide (((nform a).length : Int) < ((nform b).length : Int)) = decide (a < b) := by
      rw [la, lb]
      rcases Nat.lt_or_gt_of_ne hl with h1 | h1
      · rw [decide_eq_true (by omega), decide_eq_true (lt_of_dl ha hb h1)]
      · have := lt_of_dl hb ha h1
        rw [decide_eq_false (by omega), decide_eq_false (by omega)]
    rw [← e]; exact hv

/-! ### Adding digit by digit -/
def sums (X Y : List Int) (n : Nat) : List Int := (List.range n).map fun k => X.getD k 0 + Y.getD k 0
theorem sums_succ (X Y : List Int) (n : Nat) : sums X Y (n + 1) = sums X Y n ++ [X.getD n 0 + Y.getD n 0] := by
  simp [sums, List.range_succ]
theorem sums_length (X Y : List Int) (n : Nat) : (sums X Y n).length = n := by simp [sums]
theorem vl_range : ∀ (n : Nat) (X : List Int), X.length ≤ n → vl ((List.range n).map fun k => X.getD k 0) = vl X
  | 0, X, h => by
    have : X = [] := List.eq_nil_of_length_eq_zero (by omega)
    subst this; rfl
  | n + 1, [], _ => by
    rw [List.range_succ_eq_map]
    have := vl_range n [] (by simp)
    simp only [List.map_cons, List.map_map, vl]
    have e : ((fun k => ([] : List Int).getD k 0) ∘ Nat.succ) = fun k => ([] : List Int).getD k 0 := by funext k; simp
    rw [e, this]; rfl
  | n + 1, x :: X, h => by
    rw [List.range_succ_eq_map]
    have := vl_range n X (by simpa using h)
    simp only [List.map_cons, List.map_map, vl, List.getD_cons_zero]
    have e : ((fun k => (x :: X).getD k 0) ∘ Nat.succ) = fun k => X.getD k 0 := by funext k; simp
    rw [e, this]
theorem vl_sums (X Y : List Int) (n : Nat) (hx : X.length ≤ n) (hy : Y.length ≤ n) : vl (sums X Y n) = vl X + vl Y := by
  rw [← vl_range n X hx, ← vl_range n Y hy]
  unfold sums
  generalize List.range n = l
  induction l with
  | nil => rfl
  | cons k l ih => simp only [List.map_cons, vl, ih, Int.mul_add]; omega
theorem ra_loop (a b : Int) (ha : dl a ≤ 500000) (hb : dl b ≤ 500000) : ∀ (m i : Nat), i + m = max (dl a) (dl b) →
    rad_L0 (rad_L0_1 a b i i (sums (nform a) (nform b) i)) (.exit 0, rad_L0_E1 a b (max (dl a) (dl b)) (max (dl a) (dl b) : Nat) (sums (nform a) (nform b) (max (dl a) (dl b))))
  | 0, i, hi => by
    have : i = max (dl a) (dl b) := by omega
    subst this
    have la := nform_length a
    have lb := nform_length b
    exact rad_L0_1_3 a b _ _ _ (by omega) (by omega)
  | m + 1, i, hi => by
    have la := nform_length a
    have lb := nform_length b
    have ih := ra_loop a b ha hb m (i + 1) (by omega)
    have hn : Int.toNat (i : Int) = i := by omega
    have ga := nform_getD a i
    have gb := nform_getD b i
    have hs := sums_length (nform a) (nform b) i
    have e0 := sums_succ (nform a) (nform b) i
    have tk : ∀ d, List.take i (sums (nform a) (nform b) i) ++ List.take 1 [d] = sums (nform a) (nform b) i ++ [d] := fun d => by
      have := snoc1 (sums (nform a) (nform b) i) d
      rwa [hs] at this
    have hc : ((i + 1 : Nat) : Int) = (i : Int) + 1 := by omega
    rw [e0, hc] at ih
    by_cases h1 : i < dl a
    · by_cases h2 : i < dl b
      · refine rad_L0_1_0 a b i i _ (by omega) (by omega) (by omega) (by omega) (by omega) (by rw [hn]; omega) (by omega) (by omega) (by omega) (by omega) ?_
        rw [hn, tk]; exact ih
      · refine rad_L0_1_1 a b i i _ (by omega) (by omega) (by omega) (by omega) (by omega) (by omega) (by omega) (by omega) ?_
        have : (nform b).getD i 0 = 0 := by simp [List.getD, List.getElem?_eq_none (show (nform b).length ≤ i by omega)]
        rw [this, Int.add_zero] at ih
        rw [hn, tk]; exact ih
    · refine rad_L0_1_2 a b i i _ (by omega) (by omega) (by omega) (by omega) (by rw [hn]; omega) (by omega) (by omega) (by omega) (by omega) ?_
      have : (nform a).getD i 0 = 0 := by simp [List.getD, List.getElem?_eq_none (show (nform a).length ≤ i by omega)]
      rw [this] at ih
      rw [hn, tk]; exact ih
def pQ (N : Nat) (x : List Int) : Prop := x.length ≤ N ∧ ∀ d ∈ x, pFloored d
theorem pQ.mono {M N : Nat} {x : List Int} (h : pQ M x) (hn : M ≤ N) : pQ N x := ⟨Nat.le_trans h.1 hn, h.2⟩
theorem pQ.sz {N : Nat} {x : List Int} (h : pQ N x) : Sz (N + 3) (vl x) := (vl_sz h.2).mono (by have := h.1; omega)
theorem pQ_nform {k N : Nat} {z : Int} (h : Sz k z) (hk : k ≤ N) : pQ N (nform z) :=
  ⟨by rw [nform_length]; exact Nat.le_trans (dl_le h) hk, fun d hd => by have := nform_dig z d hd; unfold pFloored; omega⟩
def pAd (x y : List Int) : Prop := pQ 400000 x ∧ pQ 400000 y
theorem rAdd_fc (x y : List Int) (h : pAd x y) : FC Tryz.prog 70 [.sq x, .sq y] (.ni (vl x + vl y)) := by
  obtain ⟨hx, hy⟩ := h
  have px : pNm x := hx.mono (by decide)
  have py : pNm y := hy.mono (by decide)
  have da := dl_le hx.sz
  have db := dl_le hy.sz
  have la := nform_length (vl x)
  have lb := nform_length (vl y)
  by_cases h0 : max (dl (vl x)) (dl (vl y)) = 0
  · have zx : vl x = 0 := dl_zero.1 (by omega)
    have zy : vl y = 0 := dl_zero.1 (by omega)
    have := rad_0 x y px py (rad_L0_0_3 _ _ (by omega) (by omega)) ⟨by simp, fun d hd => by cases hd⟩
    rw [zx, zy]; exact this
  · have hl := ra_loop (vl x) (vl y) (by omega) (by omega) (max (dl (vl x)) (dl (vl y)) - 1) 1 (by omega)
    have ga := nform_getD (vl x) 0
    have gb := nform_getD (vl y) 0
    have e1 : sums (nform (vl x)) (nform (vl y)) 1 = [(nform (vl x)).getD 0 0 + (nform (vl y)).getD 0 0] := by simp [sums]
    have hL : rad_L0 (rad_L0_0 (vl x) (vl y)) (.exit 0, rad_L0_E1 (vl x) (vl y) (max (dl (vl x)) (dl (vl y))) (max (dl (vl x)) (dl (vl y)) : Nat) (sums (nform (vl x)) (nform (vl y)) (max (dl (vl x)) (dl (vl y))))) := by
      rw [e1] at hl
      by_cases h1 : 0 < dl (vl x)
      · by_cases h2 : 0 < dl (vl y)
        · exact rad_L0_0_0 _ _ (by omega) (by omega) (by omega) (by omega) (by omega) hl
        · have : (nform (vl y)).getD 0 0 = 0 := by simp [List.getD, List.getElem?_eq_none (show (nform (vl y)).length ≤ 0 by omega)]
          rw [this, Int.add_zero] at hl
          exact rad_L0_0_1 _ _ (by omega) (by omega) (by omega) hl
      · have : (nform (vl x)).getD 0 0 = 0 := by simp [List.getD, List.getElem?_eq_none (show (nform (vl x)).length ≤ 0 by omega)]
        rw [this] at hl
        exact rad_L0_0_2 _ _ (by omega) (by omega) (by omega) (by omega) hl
    have hs := sums_length (nform (vl x)) (nform (vl y)) (max (dl (vl x)) (dl (vl y)))
    have htk : List.take (max (dl (vl x)) (dl (vl y))) (sums (nform (vl x)) (nform (vl y)) (max (dl (vl x)) (dl (vl y)))) = sums (nform (vl x)) (nform (vl y)) (max (dl (vl x)) (dl (vl y))) := List.take_of_length_le (by omega)
    have := rad_1 x y _ _ _ px py hL (by omega) (by
      rw [htk]
      refine ⟨by omega, fun d hd => ?_⟩
      obtain ⟨k, _, rfl⟩ := List.mem_map.1 hd
      have := nform_getD (vl x) k
      have := nform_getD (vl y) k
      unfold pFloored; omega)
    rw [htk, vl_sums _ _ _ (by omega) (by omega), nform_vl, nform_vl] at this
    exact this
theorem Le.sqNi {x : List Int} (h : x = nform (vl x)) : Le (.sq x) (.ni (vl x)) := fun E v hv => hv.toNi rfl h
def pLesL (x y : List Int) : Prop := (x = nform (vl x) ∧ y = nform (vl y)) ∧ pLes (vl x) (vl y)
instance tLesL {x y : List Int} : Tst (pLesL x y) := ⟨false, fun h => by cases h⟩
theorem rlessL_fc (x y : List Int) (h : pLesL x y) : FC Tryz.prog 170 [.sq x, .sq y] (.lit (.bool (decide (vl x < vl y)))) :=
  (rless_fc _ _ h.2).le (.cons (Le.sqNi h.1.1) (.cons (Le.sqNi h.1.2) .nil)) (Le.refl _)
def ctrF4 : Ctr := (138, n1 pNg (fun z => .lit (.bool (decide (z < 0))))) :: (170, cLL pLesL (fun x y => .lit (.bool (decide (vl x < vl y))))) :: (70, cLL pAd (fun x y => .ni (vl x + vl y))) :: ctrF3
theorem ctrF4_all : ∀ p ∈ ctrF4, CtrOK Tryz.prog p.1 p.2 := CAll.cons (n1_ok rNegative_fc) <| CAll.cons (cLL_ok rlessL_fc) <| CAll.cons (cLL_ok rAdd_fc) ctrF3_all
theorem okF4 : (mkCfg Tryz.prog ctrF4 bw).OK := cfg_ok ctrF4_all

end Go.Proofs.YtcpgkgldibobeaaGreatDoor
end
