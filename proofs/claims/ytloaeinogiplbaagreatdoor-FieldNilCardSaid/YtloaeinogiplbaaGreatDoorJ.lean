/- Part of a proof about a given program: see the last module of the claim. -/
import Derived.Test.YtloaeinogiplbaaGreatDoorD
import Derived.Test.YtloaeinogiplbaaGreatDoorB
section
open Go Go.Ev Go.RowKit
namespace Go.Proofs.YtloaeinogiplbaaGreatDoor
open Go.Proofs
set_option maxRecDepth 100000
set_option maxHeartbeats 1000000
set_option linter.unusedVariables false
set_option linter.unusedSimpArgs false
abbrev IN (a b : List Int) (i : Int) : St := ⟨sp 26 [(0, .sq a), (1, .sq b), (4, .ff), (5, .lit (.int .i64 i))], [], []⟩


theorem xA_0 (x y : List Int) : funA (mkCfg Tryz.prog ctr11 bw) 60 65 [.sq x, .sq y] [] [] = some (AV.ni (vl x + vl y), [pRead x, pRead y, decide (vl x < 0) = decide (vl x < 0), decide (vl y < 0) = decide (vl y < 0), pDD (vl x) (vl y), decide (vl x + vl y < 0) = decide (vl x + vl y < 0), dl (vl x + vl y) ≤ 1048576]) := by kernel_rfl
theorem xS_0 (x y : List Int) : funA (mkCfg Tryz.prog ctr11 bw) 60 64 [.sq x, .sq y] [] [] = some (AV.ni (vl x + -vl y), [pRead x, pRead y, decide (vl y < 0) = decide (vl y < 0), True, decide (vl x < 0) = decide (vl x < 0), decide (-vl y < 0) = decide (-vl y < 0), pDD (vl x) (-vl y), decide (vl x + -vl y < 0) = decide (vl x + -vl y < 0), dl (vl x + -vl y) ≤ 1048576]) := by kernel_rfl
theorem xC_0 (x y : List Int) : funA (mkCfg Tryz.prog ctr11 bw) 60 66 [.sq x, .sq y] [] [] = some (aI (Int.sign (vl x - vl y)), [pRead x, pRead y, decide (vl x < 0) = decide (vl x < 0), decide (vl y < 0) = decide (vl y < 0), pDD (vl x) (vl y)]) := by kernel_rfl
theorem xD_0 (x y : List Int) : funA (mkCfg Tryz.prog ctr11 bw) 60 79 [.sq x, .sq y] [true] [] = some (AV.tup [aN, aN, aI 12], [pRead y, decide (vl y < 0) = decide (vl y < 0), True, (Int.sign (vl y) == 0) = true]) := by kernel_rfl
abbrev xD_1_s0 (x : List Int) (y : List Int) : St := ⟨sp 26 [(0, AV.sq x), (1, AV.sq y), (4, aN), (5, aN), (6, aI 0), (7, AV.ref 0 0), (8, AV.ref 1 0), (9, AV.ref 2 0), (10, AV.sq y), (11, AV.agg [AV.lit (Value.bool (decide (vl y < 0))), AV.wd (vl y)]), (12, AV.agg [AV.lit (Value.bool (decide (vl y < 0))), AV.wd (vl y)]), (13, aI (Int.sign (vl y))), (14, AV.lit (Value.bool (Int.sign (vl y) == 0))), (15, AV.tup [AV.agg [AV.lit (Value.bool (decide (vl x / vl y < 0))), AV.wd (vl x / vl y)], AV.agg [AV.lit (Value.bool (decide (vl x % vl y < 0))), AV.wd (vl x % vl y)]]), (16, AV.sq x), (17, AV.agg [AV.lit (Value.bool (decide (vl x < 0))), AV.wd (vl x)]), (18, AV.agg [AV.lit (Value.bool (decide (vl y < 0))), AV.wd (vl y)]), (19, AV.tup [AV.agg [AV.lit (Value.bool (decide (vl x / vl y < 0))), AV.wd (vl x / vl y)], AV.agg [AV.lit (Value.bool (decide (vl x % vl y < 0))), AV.wd (vl x % vl y)]]), (20, AV.agg [AV.lit (Value.bool (decide (vl x / vl y < 0))), AV.wd (vl x / vl y)]), (21, AV.agg [AV.lit (Value.bool (decide (vl x % vl y < 0))), AV.wd (vl x % vl y)])], [Row.flat [AV.lit (Value.bool (decide (vl y < 0))), AV.wd (vl y)] true, Row.flat [AV.lit (Value.bool (decide (vl x / vl y < 0))), AV.wd (vl x / vl y)] true, Row.flat [AV.lit (Value.bool (decide (vl x % vl y < 0))), AV.wd (vl x % vl y)] true], [0, 1]⟩
abbrev xD_1_s1 (x : List Int) (y : List Int) : St := ⟨sp 26 [(0, AV.sq x), (1, AV.sq y), (4, aN), (5, aN), (6, aI 0), (7, AV.ref 0 0), (8, AV.ref 2 0), (9, AV.ref 1 0), (10, AV.sq y), (11, AV.agg [AV.lit (Value.bool (decide (vl y < 0))), AV.wd (vl y)]), (12, AV.agg [AV.lit (Value.bool (decide (vl y < 0))), AV.wd (vl y)]), (13, aI (Int.sign (vl y))), (14, AV.lit (Value.bool (Int.sign (vl y) == 0))), (15, AV.tup [AV.agg [AV.lit (Value.bool (decide (vl x / vl y < 0))), AV.wd (vl x / vl y)], AV.agg [AV.lit (Value.bool (decide (vl x % vl y < 0))), AV.wd (vl x % vl y)]]), (16, AV.sq x), (17, AV.agg [AV.lit (Value.bool (decide (vl x < 0))), AV.wd (vl x)]), (18, AV.agg [AV.lit (Value.bool (decide (vl y < 0))), AV.wd (vl y)]), (19, AV.tup [AV.agg [AV.lit (Value.bool (decide (vl x / vl y < 0))), AV.wd (vl x / vl y)], AV.agg [AV.lit (Value.bool (decide (vl x % vl y < 0))), AV.wd (vl x % vl y)]]), (20, AV.agg [AV.lit (Value.bool (decide (vl x / vl y < 0))), AV.wd (vl x / vl y)]), (21, AV.agg [AV.lit (Value.bool (decide (vl x % vl y < 0))), AV.wd (vl x % vl y)])], [Row.flat [AV.lit (Value.bool (decide (vl y < 0))), AV.wd (vl y)] true, Row.flat [AV.lit (Value.bool (decide (vl x % vl y < 0))), AV.wd (vl x % vl y)] true, Row.flat [AV.lit (Value.bool (decide (vl x / vl y < 0))), AV.wd (vl x / vl y)] true], [0, 1]⟩
abbrev xD_1_s2 (x : List Int) (y : List Int) : St := ⟨sp 26 [(0, AV.sq x), (1, AV.sq y), (4, aN), (5, aN), (6, aI 0), (7, AV.ref 0 0), (8, AV.ref 1 0), (9, AV.ref 2 0), (10, AV.sq y), (11, AV.agg [AV.lit (Value.bool (decide (vl y < 0))), AV.wd (vl y)]), (12, AV.agg [AV.lit (Value.bool (decide (vl y < 0))), AV.wd (vl y)]), (13, aI (Int.sign (vl y))), (14, AV.lit (Value.bool (Int.sign (vl y) == 0))), (15, AV.tup [AV.agg [AV.lit (Value.bool (decide (vl x / vl y < 0))), AV.wd (vl x / vl y)], AV.agg [AV.lit (Value.bool (decide (vl x % vl y < 0))), AV.wd (vl x % vl y)]]), (16, AV.sq x), (17, AV.agg [AV.lit (Value.bool (decide (vl x < 0))), AV.wd (vl x)]), (18, AV.agg [AV.lit (Value.bool (decide (vl y < 0))), AV.wd (vl y)]), (19, AV.tup [AV.agg [AV.lit (Value.bool (decide (vl x / vl y < 0))), AV.wd (vl x / vl y)], AV.agg [AV.lit (Value.bool (decide (vl x % vl y < 0))), AV.wd (vl x % vl y)]]), (20, AV.agg [AV.lit (Value.bool (decide (vl x / vl y < 0))), AV.wd (vl x / vl y)]), (21, AV.agg [AV.lit (Value.bool (decide (vl x % vl y < 0))), AV.wd (vl x % vl y)])], [Row.flat [AV.lit (Value.bool (decide (vl y < 0))), AV.wd (vl y)] true, Row.flat [AV.lit (Value.bool (decide (vl x / vl y < 0))), AV.wd (vl x / vl y)] true, Row.flat [AV.lit (Value.bool (decide (vl x % vl y < 0))), AV.wd (vl x % vl y)] true], [0]⟩
theorem xD_1 (x y : List Int) : funA (mkCfg Tryz.prog ctr11 bw) 60 79 [.sq x, .sq y] [false] [] = some (AV.tup [AV.ni (vl x / vl y), AV.ni (vl x % vl y), aI 0], [pRead y, decide (vl y < 0) = decide (vl y < 0), True, (Int.sign (vl y) == 0) = false, pRead x, decide (vl x < 0) = decide (vl x < 0), decide (vl y < 0) = decide (vl y < 0), pOver (vl x) (vl y), (xD_1_s2 x y) = (xD_1_s2 x y), decide (vl x < 0) = decide (vl x < 0), decide (vl y < 0) = decide (vl y < 0), pOver (vl x) (vl y), decide (vl x < 0) = decide (vl x < 0), decide (vl y < 0) = decide (vl y < 0), pOver (vl x) (vl y), (xD_1_s0 x y) = (xD_1_s0 x y), decide (vl x < 0) = decide (vl x < 0), decide (vl y < 0) = decide (vl y < 0), pOver (vl x) (vl y), decide (vl x < 0) = decide (vl x < 0), decide (vl y < 0) = decide (vl y < 0), pOver (vl x) (vl y), (xD_1_s1 x y) = (xD_1_s1 x y), (xD_1_s2 x y) = (xD_1_s2 x y), (xD_1_s2 x y) = (xD_1_s2 x y), pRead x, decide (vl x < 0) = decide (vl x < 0), decide (vl y < 0) = decide (vl y < 0), pOver (vl x) (vl y), decide (vl x < 0) = decide (vl x < 0), decide (vl y < 0) = decide (vl y < 0), pOver (vl x) (vl y), (xD_1_s0 x y) = (xD_1_s0 x y), pRead x, decide (vl x < 0) = decide (vl x < 0), decide (vl y < 0) = decide (vl y < 0), pOver (vl x) (vl y), (xD_1_s0 x y) = (xD_1_s0 x y), pRead x, decide (vl x < 0) = decide (vl x < 0), decide (vl y < 0) = decide (vl y < 0), pOver (vl x) (vl y), decide (vl x < 0) = decide (vl x < 0), decide (vl y < 0) = decide (vl y < 0), pOver (vl x) (vl y), (xD_1_s1 x y) = (xD_1_s1 x y), pRead x, decide (vl x < 0) = decide (vl x < 0), decide (vl y < 0) = decide (vl y < 0), pOver (vl x) (vl y), (xD_1_s1 x y) = (xD_1_s1 x y), (xD_1_s2 x y) = (xD_1_s2 x y), (xD_1_s2 x y) = (xD_1_s2 x y), decide (vl x / vl y < 0) = decide (vl x / vl y < 0), dl (vl x / vl y) ≤ 1048576, decide (vl x % vl y < 0) = decide (vl x % vl y < 0), dl (vl x % vl y) ≤ 1048576]) := by kernel_rfl
theorem inL_0 (a b : List Int) (i : Int) : rndA (mkCfg Tryz.prog ctr11 bw) 60 (lpOf Tryz.prog 58 0) 0 [] [0, 1, 4, 5] [] (IN a b i) [true, true] [] = some (Ex.ret, ⟨sp 26 [(0, AV.sq a), (1, AV.sq b), (4, AV.ff), (5, aI i)], [], []⟩, [decide (i < (↑(List.length a) : Int)) = true, decide (0 ≤ i) = true, decide (i < (↑(List.length a) : Int)) = true, decide (Int.toNat i < List.length a) = true, decide (0 ≤ i) = true, decide (i < (↑(List.length b) : Int)) = true, decide (Int.toNat i < List.length b) = true, (List.getD a (Int.toNat i) 0 != List.getD b (Int.toNat i) 0) = true]) := by kernel_rfl
theorem inL_1 (a b : List Int) (i : Int) : rndA (mkCfg Tryz.prog ctr11 bw) 60 (lpOf Tryz.prog 58 0) 0 [] [0, 1, 4, 5] [] (IN a b i) [true, false] [] = some (Ex.normal, ⟨sp 26 [(0, AV.sq a), (1, AV.sq b), (4, AV.ff), (5, aI (i + 1))], [], []⟩, [decide (i < (↑(List.length a) : Int)) = true, decide (0 ≤ i) = true, decide (i < (↑(List.length a) : Int)) = true, decide (Int.toNat i < List.length a) = true, decide (0 ≤ i) = true, decide (i < (↑(List.length b) : Int)) = true, decide (Int.toNat i < List.length b) = true, (List.getD a (Int.toNat i) 0 != List.getD b (Int.toNat i) 0) = false, inR IntKind.i64 (i + 1) = true]) := by kernel_rfl
theorem inL_2 (a b : List Int) (i : Int) : rndA (mkCfg Tryz.prog ctr11 bw) 60 (lpOf Tryz.prog 58 0) 0 [] [0, 1, 4, 5] [] (IN a b i) [false] [] = some (Ex.exit 0, ⟨sp 26 [(0, AV.sq a), (1, AV.sq b), (4, AV.ff), (5, aI i)], [], []⟩, [decide (i < (↑(List.length a) : Int)) = false]) := by kernel_rfl
theorem inE_1 (a b : List Int) (i : Int) : funA (mkCfg Tryz.prog ctr11 bw) 60 58 [.sq a, .sq b] [false] [some (viaL Tryz.prog (lpOf Tryz.prog 58 0) [] [0,1,4,5] [] (IN a b 0) (.exit 0, IN a b i))] = some (AV.tt, [((↑(List.length a) : Int) != (↑(List.length b) : Int)) = false, LoopOK Tryz.prog (lpOf Tryz.prog 58 0) (viaL Tryz.prog (lpOf Tryz.prog 58 0) [] [0, 1, 4, 5] [] ⟨sp 26 [(0, AV.sq a), (1, AV.sq b), (4, AV.ff), (5, aI 0)], [], []⟩ (Ex.exit 0, ⟨sp 26 [(0, AV.sq a), (1, AV.sq b), (4, AV.ff), (5, aI i)], [], []⟩)), (⟨sp 26 [(0, AV.sq a), (1, AV.sq b), (4, AV.ff), (5, aI 0)], [], []⟩ : St) = ⟨sp 26 [(0, AV.sq a), (1, AV.sq b), (4, AV.ff), (5, aI 0)], [], []⟩, Loops 0 Tryz.prog (lpOf Tryz.prog 58 0) ⟨sp 26 [(0, AV.sq a), (1, AV.sq b), (4, AV.ff), (5, aI 0)], [], []⟩ (Ex.exit 0, ⟨sp 26 [(0, AV.sq a), (1, AV.sq b), (4, AV.ff), (5, aI i)], [], []⟩)]) := by kernel_rfl
theorem inR_1 (a b : List Int) (i : Int) : funA (mkCfg Tryz.prog ctr11 bw) 60 58 [.sq a, .sq b] [false] [some (viaL Tryz.prog (lpOf Tryz.prog 58 0) [] [0,1,4,5] [] (IN a b 0) (.ret, IN a b i))] = some (AV.ff, [((↑(List.length a) : Int) != (↑(List.length b) : Int)) = false, LoopOK Tryz.prog (lpOf Tryz.prog 58 0) (viaL Tryz.prog (lpOf Tryz.prog 58 0) [] [0, 1, 4, 5] [] ⟨sp 26 [(0, AV.sq a), (1, AV.sq b), (4, AV.ff), (5, aI 0)], [], []⟩ (Ex.ret, ⟨sp 26 [(0, AV.sq a), (1, AV.sq b), (4, AV.ff), (5, aI i)], [], []⟩)), (⟨sp 26 [(0, AV.sq a), (1, AV.sq b), (4, AV.ff), (5, aI 0)], [], []⟩ : St) = ⟨sp 26 [(0, AV.sq a), (1, AV.sq b), (4, AV.ff), (5, aI 0)], [], []⟩, Loops 0 Tryz.prog (lpOf Tryz.prog 58 0) ⟨sp 26 [(0, AV.sq a), (1, AV.sq b), (4, AV.ff), (5, aI 0)], [], []⟩ (Ex.ret, ⟨sp 26 [(0, AV.sq a), (1, AV.sq b), (4, AV.ff), (5, aI i)], [], []⟩)]) := by kernel_rfl
theorem inN_0 (a b : List Int) : funA (mkCfg Tryz.prog ctr11 bw) 60 58 [.sq a, .sq b] [true] [] = some (AV.ff, [((↑(List.length a) : Int) != (↑(List.length b) : Int)) = true]) := by kernel_rfl
/-- A list that isn't long, of ints. -/
def pLs (x : List Int) : Prop := x.length ≤ 1000 ∧ ∀ d ∈ x, pFloored d
theorem vl_le : ∀ (x : List Int), (∀ d ∈ x, pFloored d) → (vl x).natAbs + 10000000000000000000 ≤ 10000000000000000000 * 100000000 ^ x.length
  | [], _ => by simp [vl]
  | d :: l, h => by
    have h1 := h d (by simp)
    have h2 := vl_le l fun e he => h e (by simp [he])
    unfold pFloored at h1
    simp only [vl, List.length_cons, Nat.pow_succ]
    have h3 : (d + 100000000 * vl l).natAbs ≤ d.natAbs + 100000000 * (vl l).natAbs := by
      have := Int.natAbs_add_le d (100000000 * vl l)
      rw [Int.natAbs_mul] at this
      simpa using this
    have h4 : d.natAbs ≤ 9223372036854775808 := by omega
    generalize (vl l).natAbs = v at h2 h3
    generalize 100000000 ^ l.length = P at h2 ⊢
    omega
theorem vl_sz {x : List Int} (h : ∀ d ∈ x, pFloored d) : Sz (x.length + 3) (vl x) := by
  have h1 := vl_le x h
  unfold Sz
  rw [Nat.pow_add]
  have : (100000000 : Nat) ^ 3 = 1000000000000000000000000 := by decide
  rw [this]
  have h2 : 0 < 100000000 ^ x.length := Nat.pow_pos (by decide)
  generalize 100000000 ^ x.length = P at h1 h2 ⊢
  omega
theorem pLs_sz {x : List Int} (h : pLs x) : Sz 1003 (vl x) := (vl_sz h.2).mono (by have := h.1; omega)
theorem pLs_read {x : List Int} (h : pLs x) : pRead x := ⟨by have := h.1; omega, h.2⟩
theorem pLs_nform {z : Int} {k : Nat} (h : Sz k z) (hk : k ≤ 1000) : pLs (nform z) := by
  have h1 := digs_length z.natAbs k h
  have h2 := Digs_digs z.natAbs
  unfold nform
  split
  · refine ⟨by simp; omega, fun d hd => ?_⟩
    obtain ⟨e, he, rfl⟩ := List.mem_map.1 hd
    have := h2 e he
    unfold pFloored; omega
  · refine ⟨by omega, fun d hd => ?_⟩
    have := h2 d hd
    unfold pFloored; omega
theorem nform_inj {a b : Int} : nform a = nform b ↔ a = b := ⟨fun h => by rw [← nform_vl a, h, nform_vl], fun h => by rw [h]⟩
theorem szdl {k : Nat} {z : Int} (h : Sz k z) (hk : k ≤ 1048576) : List.length (digs (Int.natAbs z)) ≤ 1048576 := Nat.le_trans (digs_length z.natAbs k h) hk

def pXY (x y : List Int) : Prop := pLs x ∧ pLs y
section
variable {x y : List Int}
theorem add_fc (x y : List Int) (h : pXY x y) : FC Tryz.prog 65 [.sq x, .sq y] (.ni (vl x + vl y)) := by
  have a := pLs_sz h.1; have b := pLs_sz h.2; have rx := pLs_read h.1; have ry := pLs_read h.2
  have ix : SzC (vl x) 1003 := ⟨a⟩
  have iy : SzC (vl y) 1003 := ⟨b⟩
  exact fc_fun ok11 (xA_0 x y) (.cons rx (.cons ry (.cons rfl (.cons rfl (.cons ⟨fits_szc (by decide), fits_szc (by decide)⟩ (.cons rfl (.cons (szdl (SzC.ok (z := vl x + vl y)) (by decide)) .nil)))))))
theorem sub_fc (x y : List Int) (h : pXY x y) : FC Tryz.prog 64 [.sq x, .sq y] (.ni (vl x - vl y)) := by
  have a := pLs_sz h.1; have b := pLs_sz h.2; have rx := pLs_read h.1; have ry := pLs_read h.2
  have ix : SzC (vl x) 1003 := ⟨a⟩
  have iy : SzC (vl y) 1003 := ⟨b⟩
  exact fc_fun ok11 (xS_0 x y) (.cons rx (.cons ry (.cons rfl (.cons trivial (.cons rfl (.cons rfl (.cons ⟨fits_szc (by decide), fits_szc (by decide)⟩ (.cons rfl (.cons (szdl (SzC.ok (z := vl x + -vl y)) (by decide)) .nil)))))))))
theorem cmp_fc (x y : List Int) (h : pXY x y) : FC Tryz.prog 66 [.sq x, .sq y] (.lit (.int .i64 (vl x - vl y).sign)) := by
  have a := pLs_sz h.1; have b := pLs_sz h.2; have rx := pLs_read h.1; have ry := pLs_read h.2
  exact fc_fun ok11 (xC_0 x y) (.cons rx (.cons ry (.cons rfl (.cons rfl (.cons ⟨fits_of_sz a (by decide), fits_of_sz b (by decide)⟩ .nil)))))
theorem gcd_sz {x y : Int} {k : Nat} (hx : Sz k x) (hy : Sz k y) : Sz k (Int.gcd x y : Int) := by
  by_cases h : x = 0
  · subst h; rw [Int.gcd_zero_left]; exact hy.le (by simp)
  · refine hx.le ?_
    have h1 : Int.gcd x y ∣ x.natAbs := Int.natAbs_dvd_natAbs.2 (Int.gcd_dvd_left x y)
    exact Nat.le_of_dvd (by omega) h1
end
theorem sign_beq (z : Int) : (z.sign == 0) = decide (z = 0) := by
  by_cases h : z = 0
  · subst h; rfl
  · have : z.sign ≠ 0 := fun h1 => h (Int.sign_eq_zero_iff_zero.1 h1)
    simp [h, this]
def pD0 (x y : List Int) : Prop := pXY x y ∧ vl y = 0
def pD1 (x y : List Int) : Prop := pXY x y ∧ vl y ≠ 0
theorem div0_fc (x y : List Int) (h : pD0 x y) : FC Tryz.prog 79 [.sq x, .sq y] (.tup [.lit (.slice none 0 0), .lit (.slice none 0 0), .lit (.int .i64 12)]) :=
  fc_fun ok11 (xD_0 x y) (.cons (pLs_read h.1.2) (.cons rfl (.cons trivial (.cons (by rw [sign_beq]; exact decide_eq_true h.2) .nil))))
theorem div_sz {x y : Int} {k : Nat} (hx : Sz k x) : Sz k (x / y) := hx.le (Int.natAbs_ediv_le_natAbs x y)
theorem mod_sz {x y : Int} {k : Nat} (hy : Sz k y) (h0 : y ≠ 0) : Sz k (x % y) := by
  refine hy.le ?_
  have h1 := Int.emod_nonneg x h0
  have h2 := Int.emod_lt x h0
  omega
theorem div1_fc (x y : List Int) (h : pD1 x y) : FC Tryz.prog 79 [.sq x, .sq y] (.tup [.ni (vl x / vl y), .ni (vl x % vl y), .lit (.int .i64 0)]) := by
  obtain ⟨h, h0⟩ := h
  have a := pLs_sz h.1; have b := pLs_sz h.2; have rx := pLs_read h.1; have ry := pLs_read h.2
  have hov : pOver (vl x) (vl y) := ⟨h0, fits_of_sz a (by decide), fits_of_sz b (by decide)⟩
  have h1 : (Int.sign (vl y) == 0) = false := by rw [sign_beq]; exact decide_eq_false h0
  have d1 := szdl (div_sz (y := vl y) a) (by decide)
  have d2 := szdl (mod_sz (x := vl x) b h0) (by decide)
  exact fc_fun ok11 (xD_1 x y) (by (repeat' (first | exact AllC.nil | refine AllC.cons ?_ ?_)); all_goals (first | (with_reducible rfl) | assumption | trivial | rfl))

theorem ints_loop (a b : List Int) (hl : a.length = b.length) (hs : a.length ≤ 4611686018427387904) : ∀ (k : Nat) (i : Nat), i + k = a.length →
    (a.drop i = b.drop i ∧ Loops 0 Tryz.prog (lpOf Tryz.prog 58 0) (IN a b i) (.exit 0, IN a b a.length)) ∨
    (a.drop i ≠ b.drop i ∧ ∃ j : Int, Loops 0 Tryz.prog (lpOf Tryz.prog 58 0) (IN a b i) (.ret, IN a b j))
  | 0, i, hi => by
    obtain rfl : i = a.length := by omega
    refine .inl ⟨?_, Loops.fin (LS.of ok11 (inL_2 a b a.length) (.cons (decide_eq_false (by omega)) .nil)) (by simp [Ex.toExit])⟩
    rw [List.drop_length, hl, List.drop_length]
  | k + 1, i, hi => by
    have hia : i < a.length := by omega
    have hib : i < b.length := by omega
    have ea : a.drop i = a.getD i 0 :: a.drop (i + 1) := by rw [List.drop_eq_getElem_cons hia]; simp [List.getD, hia]
    have eb : b.drop i = b.getD i 0 :: b.drop (i + 1) := by rw [List.drop_eq_getElem_cons hib]; simp [List.getD, hib]
    have hn : Int.toNat (i : Int) = i := by omega
    by_cases h : a.getD i 0 = b.getD i 0
    · have hx : (a.getD i 0 != b.getD i 0) = false := by simpa using h
      have hgo := LS.of ok11 (inL_1 a b i) (by rw [hn]; (repeat' (first | exact AllC.nil | refine AllC.cons ?_ ?_)); all_goals (first | (with_reducible exact hx) | (with_reducible exact inR64.2 (by omega)) | (refine decide_eq_true ?_; omega)))
      rcases ints_loop a b hl hs k (i + 1) (by omega) with ⟨h1, h2⟩ | ⟨h1, j, h2⟩
      · exact .inl ⟨by rw [ea, eb, h, h1], Loops.go hgo h2⟩
      · exact .inr ⟨by rw [ea, eb]; intro hh; exact h1 (List.cons.inj hh).2, j, Loops.go hgo h2⟩
    · have hx : (a.getD i 0 != b.getD i 0) = true := by simpa using h
      have hgo := LS.of ok11 (inL_0 a b i) (by rw [hn]; (repeat' (first | exact AllC.nil | refine AllC.cons ?_ ?_)); all_goals (first | (with_reducible exact hx) | (refine decide_eq_true ?_; omega)))
      exact .inr ⟨by rw [ea, eb]; intro hh; exact h (List.cons.inj hh).1, i, Loops.fin hgo (by simp [Ex.toExit])⟩
def pIn (a b : List Int) : Prop := a.length ≤ 1048576 ∧ b.length ≤ 1048576
theorem ints_fc (a b : List Int) (h : pIn a b) : FC Tryz.prog 58 [.sq a, .sq b] (.lit (.bool (decide (a = b)))) := by
  by_cases hl : a.length = b.length
  · have hne : ((a.length : Int) != (b.length : Int)) = false := by rw [hl]; simp
    rcases ints_loop a b hl (by have := h.1; omega) a.length 0 (by omega) with ⟨h1, h2⟩ | ⟨h1, j, h2⟩
    · have e : a = b := by simpa using h1
      have := fc_fun ok11 (inE_1 a b a.length) (.cons hne (.cons viaL_ok (.cons rfl (.cons h2 .nil))))
      refine this.res fun E v hv => ?_
      cases hv
      rw [decide_eq_true e]; exact .lit _
    · have e : a ≠ b := by simpa using h1
      have := fc_fun ok11 (inR_1 a b j) (.cons hne (.cons viaL_ok (.cons rfl (.cons h2 .nil))))
      refine this.res fun E v hv => ?_
      rw [decide_eq_false e]
      first | exact hv | (cases hv; exact .lit _)
  · have hne : ((a.length : Int) != (b.length : Int)) = true := by simp; omega
    have := fc_fun ok11 (inN_0 a b) (.cons hne .nil)
    refine this.res fun E v hv => ?_
    have e : a ≠ b := fun h => hl (by rw [h])
    cases hv
    rw [decide_eq_false e]; exact .lit _
/-- A contract that is one of two, by the supply: the first where the decision is true. -/
def twoC (t : List AV → M Bool) (a b : List AV → M AV) (args : List AV) : M AV := do
  let d ← t args
  match d with
  | true => a args
  | false => b args
theorem twoC_ok {P : Program} {f : FuncId} {t : List AV → M Bool} {a b : List AV → M AV} (ha : CtrOK P f a) (hb : CtrOK P f b) : CtrOK P f (twoC t a b) := by
  intro args hd
  unfold twoC
  refine Spec.bind ?_
  intro c s x s' cs _ _
  cases x
  · exact hb args hd
  · exact ha args hd
/-- Is the second list 0? -/
def tZero (args : List AV) : M Bool := match args with
  | [_, y] => do
    let q ← ofOpt 270 (ints? y)
    dec (decide (vl q = 0))
  | _ => fail 271
def ctrX : Ctr :=
  (65, cLL pXY (fun x y => .ni (vl x + vl y))) :: (64, cLL pXY (fun x y => .ni (vl x - vl y))) ::
  (66, cLL pXY (fun x y => .lit (.int .i64 (vl x - vl y).sign))) ::
  (79, twoC tZero (cLL pD0 (fun _ _ => .tup [.lit (.slice none 0 0), .lit (.slice none 0 0), .lit (.int .i64 12)])) (cLL pD1 (fun x y => .tup [.ni (vl x / vl y), .ni (vl x % vl y), .lit (.int .i64 0)]))) ::
  (58, cLL pIn (fun a b => .lit (.bool (decide (a = b))))) :: ctr11
theorem ctrX_all : ∀ p ∈ ctrX, CtrOK Tryz.prog p.1 p.2 :=
  CAll.cons (cLL_ok add_fc) <| CAll.cons (cLL_ok sub_fc) <| CAll.cons (cLL_ok cmp_fc) <|
  CAll.cons (twoC_ok (cLL_ok div0_fc) (cLL_ok div1_fc)) <| CAll.cons (cLL_ok ints_fc) ctr11_all
theorem okX : (mkCfg Tryz.prog ctrX bw).OK := cfg_ok ctrX_all

end Go.Proofs.YtloaeinogiplbaaGreatDoor
end
