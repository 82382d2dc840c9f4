/- Part of a proof about a given program: see the last module of the claim. -/
import Derived.Test.YtloaeinogiplbaaGreatDoorI
import Derived.Test.YtloaeinogiplbaaGreatDoorJ
import Derived.Test.YtloaeinogiplbaaGreatDoorB
section
open Go Go.Ev Go.RowKit
namespace Go.Proofs.YtloaeinogiplbaaGreatDoor
open Go.Proofs
set_option maxRecDepth 100000
set_option maxHeartbeats 1000000
set_option linter.unusedVariables false
set_option linter.unusedSimpArgs false


theorem bsh_0 (C : List (List Int)) (D : List Int) (k : Int) (h1 : (↑(List.length C) : Int) > 6) : FC Tryz.prog 78 [.agg [.lst (.sl (.int .i64)) C, .sq D], .lit (.int .i64 k)] (AV.ff) := fc_fun okW (show funA (mkCfg Tryz.prog ctrW bw) 60 78 [.agg [.lst (.sl (.int .i64)) C, .sq D], .lit (.int .i64 k)] [(0, true)] [] = some (AV.ff, ((decide ((↑(List.length C) : Int) > 6) = true) :: [])) by kernel_rfl) (AllC.cons (decide_eq_true h1) AllC.nil)
theorem bsh_1 (C : List (List Int)) (D : List Int) (k : Int) (h1 : ¬ ((↑(List.length C) : Int) > 6)) (h2 : (↑(List.length D) : Int) > k) : FC Tryz.prog 78 [.agg [.lst (.sl (.int .i64)) C, .sq D], .lit (.int .i64 k)] (AV.ff) := fc_fun okW (show funA (mkCfg Tryz.prog ctrW bw) 60 78 [.agg [.lst (.sl (.int .i64)) C, .sq D], .lit (.int .i64 k)] [(0, false), (0, true)] [] = some (AV.ff, ((decide ((↑(List.length C) : Int) > 6) = false) :: (decide ((↑(List.length D) : Int) > k) = true) :: [])) by kernel_rfl) (AllC.cons (decide_eq_false h1) (AllC.cons (decide_eq_true h2) AllC.nil))
abbrev bsh_L0 (s : St) (r : Ex × St) : Prop := Loops 1 Tryz.prog (lpOf Tryz.prog 78 0) s r
abbrev bsh_L0_0 (t1 : Int) (qr0_0 : List (List Int)) (qr0_1 : List Int) (t5 : Int) : St := ⟨sp 32 [(1, aI t1), (2, AV.ref 0 0), (5, aI t5)], [Row.flat [AV.lst (EK.sl (EK.int IntKind.i64)) qr0_0, AV.sq qr0_1] true], []⟩
abbrev bsh_L0_E0 (t1 : Int) (qr0_0 : List (List Int)) (qr0_1 : List Int) : St := ⟨sp 32 [(4, AV.ff)], [Row.flat [AV.lst (EK.sl (EK.int IntKind.i64)) qr0_0, AV.sq qr0_1] true], []⟩
abbrev bsh_L0_E1 (t1 : Int) (qr0_0 : List (List Int)) (qr0_1 : List Int) (t5 : Int) : St := ⟨sp 32 [(1, aI t1), (2, AV.ref 0 0), (5, aI t5)], [Row.flat [AV.lst (EK.sl (EK.int IntKind.i64)) qr0_0, AV.sq qr0_1] true], []⟩
theorem bsh_L0_0_0 (t1 : Int) (qr0_0 : List (List Int)) (qr0_1 : List Int) (t5 : Int) (h1 : t5 < (↑(List.length qr0_0) : Int)) (h2 : 0 ≤ t5) (h3 : (↑(List.length (List.getD qr0_0 (Int.toNat t5) (EK.dflt (EK.sl (EK.int IntKind.i64))))) : Int) > t1) : bsh_L0 (bsh_L0_0 t1 qr0_0 qr0_1 t5) (Ex.ret, (bsh_L0_E0 t1 qr0_0 qr0_1)) := Loops.fin (LS.of okW (show rndA (mkCfg Tryz.prog ctrW bw) 60 (lpOf Tryz.prog 78 0) 1 [] [4] [] (bsh_L0_0 t1 qr0_0 qr0_1 t5) [(0, true), (0, true)] [] = some (Ex.ret, (bsh_L0_E0 t1 qr0_0 qr0_1), ((decide (t5 < (↑(List.length qr0_0) : Int)) = true) :: (decide (0 ≤ t5) = true) :: (decide (t5 < (↑(List.length qr0_0) : Int)) = true) :: (decide ((↑(List.length (List.getD qr0_0 (Int.toNat t5) (EK.dflt (EK.sl (EK.int IntKind.i64))))) : Int) > t1) = true) :: [])) by kernel_rfl) (AllC.cons (decide_eq_true h1) (AllC.cons (decide_eq_true h2) (AllC.cons (decide_eq_true h1) (AllC.cons (decide_eq_true h3) AllC.nil))))) (fun h => nomatch h)
theorem bsh_L0_0_1 (t1 : Int) (qr0_0 : List (List Int)) (qr0_1 : List Int) (t5 : Int) (h1 : t5 < (↑(List.length qr0_0) : Int)) (h2 : 0 ≤ t5) (h3 : ¬ ((↑(List.length (List.getD qr0_0 (Int.toNat t5) (EK.dflt (EK.sl (EK.int IntKind.i64))))) : Int) > t1)) (h4 : -9223372036854775808 ≤ t5 + 1 ∧ t5 + 1 ≤ 9223372036854775807) {r : Ex × St} (k : bsh_L0 (bsh_L0_0 t1 qr0_0 qr0_1 (t5 + 1)) r) : bsh_L0 (bsh_L0_0 t1 qr0_0 qr0_1 t5) r := Loops.go (LS.of okW (show rndA (mkCfg Tryz.prog ctrW bw) 60 (lpOf Tryz.prog 78 0) 1 [] [1, 2, 5] [] (bsh_L0_0 t1 qr0_0 qr0_1 t5) [(0, true), (0, false)] [] = some (Ex.normal, (bsh_L0_0 t1 qr0_0 qr0_1 (t5 + 1)), ((decide (t5 < (↑(List.length qr0_0) : Int)) = true) :: (decide (0 ≤ t5) = true) :: (decide (t5 < (↑(List.length qr0_0) : Int)) = true) :: (decide ((↑(List.length (List.getD qr0_0 (Int.toNat t5) (EK.dflt (EK.sl (EK.int IntKind.i64))))) : Int) > t1) = false) :: (inR IntKind.i64 (t5 + 1) = true) :: [])) by kernel_rfl) (AllC.cons (decide_eq_true h1) (AllC.cons (decide_eq_true h2) (AllC.cons (decide_eq_true h1) (AllC.cons (decide_eq_false h3) (AllC.cons (inR64.2 h4) AllC.nil)))))) k
theorem bsh_L0_0_2 (t1 : Int) (qr0_0 : List (List Int)) (qr0_1 : List Int) (t5 : Int) (h1 : ¬ (t5 < (↑(List.length qr0_0) : Int))) : bsh_L0 (bsh_L0_0 t1 qr0_0 qr0_1 t5) (Ex.exit 0, (bsh_L0_E1 t1 qr0_0 qr0_1 t5)) := Loops.fin (LS.of okW (show rndA (mkCfg Tryz.prog ctrW bw) 60 (lpOf Tryz.prog 78 0) 1 [] [1, 2, 5] [] (bsh_L0_0 t1 qr0_0 qr0_1 t5) [(0, false)] [] = some (Ex.exit 0, (bsh_L0_E1 t1 qr0_0 qr0_1 t5), ((decide (t5 < (↑(List.length qr0_0) : Int)) = false) :: [])) by kernel_rfl) (AllC.cons (decide_eq_false h1) AllC.nil)) (fun h => nomatch h)
theorem bsh_2 (C : List (List Int)) (D : List Int) (k : Int) (h1 : ¬ ((↑(List.length C) : Int) > 6)) (h2 : ¬ ((↑(List.length D) : Int) > k)) (hL1 : bsh_L0 (bsh_L0_0 k C D (0)) (Ex.ret, (bsh_L0_E0 k C D))) : FC Tryz.prog 78 [.agg [.lst (.sl (.int .i64)) C, .sq D], .lit (.int .i64 k)] (AV.ff) := fc_fun okW (show funA (mkCfg Tryz.prog ctrW bw) 60 78 [.agg [.lst (.sl (.int .i64)) C, .sq D], .lit (.int .i64 k)] [(0, false), (0, false)] [some (viaL Tryz.prog (lpOf Tryz.prog 78 0) [] [1, 2, 5] [] (bsh_L0_0 k C D (0)) (Ex.ret, (bsh_L0_E0 k C D)))] = some (AV.ff, ((decide ((↑(List.length C) : Int) > 6) = false) :: (decide ((↑(List.length D) : Int) > k) = false) :: viaC Tryz.prog (lpOf Tryz.prog 78 0) [1, 2, 5] [] (bsh_L0_0 k C D (0)) 1 (Ex.ret, (bsh_L0_E0 k C D)) ([]))) by kernel_rfl) (AllC.cons (decide_eq_false h1) (AllC.cons (decide_eq_false h2) (AllC.via hL1 AllC.nil)))
theorem bsh_3 (C : List (List Int)) (D : List Int) (k : Int) (t5 : Int) (h1 : ¬ ((↑(List.length C) : Int) > 6)) (h2 : ¬ ((↑(List.length D) : Int) > k)) (hL1 : bsh_L0 (bsh_L0_0 k C D (0)) (Ex.exit 0, (bsh_L0_E1 k C D t5))) : FC Tryz.prog 78 [.agg [.lst (.sl (.int .i64)) C, .sq D], .lit (.int .i64 k)] (AV.tt) := fc_fun okW (show funA (mkCfg Tryz.prog ctrW bw) 60 78 [.agg [.lst (.sl (.int .i64)) C, .sq D], .lit (.int .i64 k)] [(0, false), (0, false)] [some (viaL Tryz.prog (lpOf Tryz.prog 78 0) [] [1, 2, 5] [] (bsh_L0_0 k C D (0)) (Ex.exit 0, (bsh_L0_E1 k C D t5)))] = some (AV.tt, ((decide ((↑(List.length C) : Int) > 6) = false) :: (decide ((↑(List.length D) : Int) > k) = false) :: viaC Tryz.prog (lpOf Tryz.prog 78 0) [1, 2, 5] [] (bsh_L0_0 k C D (0)) 1 (Ex.exit 0, (bsh_L0_E1 k C D t5)) ([]))) by kernel_rfl) (AllC.cons (decide_eq_false h1) (AllC.cons (decide_eq_false h2) (AllC.via hL1 AllC.nil)))
/-- Has a number at most so many digits in each integer, and at most 6 coefficients? -/
def shN (x : List (List Int) × List Int) (k : Int) : Prop := x.1.length ≤ 6 ∧ (x.2.length : Int) ≤ k ∧ ∀ l ∈ x.1, (l.length : Int) ≤ k
instance decShN {x : List (List Int) × List Int} {k : Int} : Decidable (shN x k) := inferInstanceAs (Decidable (_ ∧ _ ∧ _))
theorem bsh_loop (C : List (List Int)) (D : List Int) (k : Int) (hC : C.length ≤ 6) : ∀ (n i : Nat), i + n = C.length →
    (∀ l ∈ C.drop i, (l.length : Int) ≤ k) ∧ bsh_L0 (bsh_L0_0 k C D i) (Ex.exit 0, bsh_L0_E1 k C D C.length) ∨ (¬ ∀ l ∈ C.drop i, (l.length : Int) ≤ k) ∧ bsh_L0 (bsh_L0_0 k C D i) (Ex.ret, bsh_L0_E0 k C D)
  | 0, i, hi => by
    obtain rfl : i = C.length := by omega
    exact .inl ⟨by simp, bsh_L0_0_2 k C D _ (by omega)⟩
  | n + 1, i, hi => by
    have hlt : i < C.length := by omega
    have hg : C.getD (Int.toNat (i : Int)) (EK.dflt (EK.sl (EK.int IntKind.i64))) = C[i] := by
      rw [Int.toNat_natCast, List.getD_eq_getElem?_getD, List.getElem?_eq_getElem hlt]; rfl
    have hd : C.drop i = C[i] :: C.drop (i + 1) := List.drop_eq_getElem_cons hlt
    by_cases h : (C[i].length : Int) ≤ k
    · have go : ∀ r, bsh_L0 (bsh_L0_0 k C D ((i : Int) + 1)) r → bsh_L0 (bsh_L0_0 k C D i) r := fun r hr =>
        bsh_L0_0_1 k C D i (by omega) (by omega) (by rw [hg]; omega) (by omega) hr
      rcases bsh_loop C D k hC n (i + 1) (by omega) with ⟨h1, h2⟩ | ⟨h1, h2⟩
      · refine .inl ⟨fun l hl => ?_, go _ h2⟩
        rw [hd] at hl
        rcases List.mem_cons.1 hl with rfl | hl
        · exact h
        · exact h1 l hl
      · exact .inr ⟨fun h3 => h1 fun l hl => h3 l (by rw [hd]; exact List.mem_cons_of_mem _ hl), go _ h2⟩
    · exact .inr ⟨fun h3 => h (h3 _ (by rw [hd]; exact List.mem_cons_self)), bsh_L0_0_0 k C D i (by omega) (by omega) (by rw [hg]; omega)⟩
theorem litB {P : Program} {f : FuncId} {a : List AV} {q : Prop} [Decidable q] (ht : q → FC P f a .tt) (hf : ¬ q → FC P f a .ff) : FC P f a (.lit (.bool (decide q))) := by
  by_cases h : q
  · rw [decide_eq_true h]; exact (ht h).res fun E v hv => by cases hv; exact .lit _
  · rw [decide_eq_false h]; exact (hf h).res fun E v hv => by cases hv; exact .lit _
theorem bShort_fc (x : List (List Int) × List Int) (k : Int) (_ : True) : FC Tryz.prog 78 [numK.val x, .lit (.int .i64 k)] (.lit (.bool (decide (shN x k)))) := by
  obtain ⟨C, D⟩ := x
  refine litB (fun h => ?_) fun h => ?_
  · obtain ⟨h1, h2, h3⟩ := h
    rcases bsh_loop C D k h1 C.length 0 (by omega) with ⟨_, k2⟩ | ⟨k1, _⟩
    · exact bsh_3 C D k _ (by simp only at h1; omega) (by simp only at h2; omega) k2
    · exact absurd h3 k1
  · by_cases h1 : C.length ≤ 6
    · by_cases h2 : (D.length : Int) ≤ k
      · rcases bsh_loop C D k h1 C.length 0 (by omega) with ⟨k1, _⟩ | ⟨_, k2⟩
        · exact absurd ⟨h1, h2, k1⟩ h
        · exact bsh_2 C D k (by omega) (by omega) k2
      · exact bsh_1 C D k (by omega) (by omega)
    · exact bsh_0 C D k (by omega)
def ctrA : Ctr := (18, cK [] (.lit (.bool true))) :: (78, cD2 numK (.int .i64) (fun _ _ => True) (fun x k => .lit (.bool (decide (shN x k))))) :: ctrX
theorem ctrA_all : ∀ p ∈ ctrA, CtrOK Tryz.prog p.1 p.2 := CAll.cons (cK_ok awake_fc) <| CAll.cons (cD2_ok bShort_fc) ctrX_all
theorem okA : (mkCfg Tryz.prog ctrA bw).OK := cfg_ok ctrA_all

end Go.Proofs.YtloaeinogiplbaaGreatDoor
end

section
open Go Go.Ev Go.RowKit
namespace Go.Proofs.YtloaeinogiplbaaGreatDoor
open Go.Proofs
set_option maxRecDepth 100000
set_option maxHeartbeats 1000000
set_option linter.unusedVariables false
set_option linter.unusedSimpArgs false


theorem ls_0 (A B : List (List Int)) (h1 : (↑(List.length A) : Int) ≠ (↑(List.length B) : Int)) : FC Tryz.prog 88 [.lst (.sl (.int .i64)) A, .lst (.sl (.int .i64)) B] (AV.ff) := fc_fun okA (show funA (mkCfg Tryz.prog ctrA bw) 60 88 [.lst (.sl (.int .i64)) A, .lst (.sl (.int .i64)) B] [(0, true)] [] = some (AV.ff, ((((↑(List.length A) : Int) != (↑(List.length B) : Int)) = true) :: [])) by kernel_rfl) (AllC.cons (bne_iff_ne.2 h1) AllC.nil)
abbrev ls_L0 (s : St) (r : Ex × St) : Prop := Loops 0 Tryz.prog (lpOf Tryz.prog 88 0) s r
abbrev ls_L0_0 (q0 : List (List Int)) (q1 : List (List Int)) (t5 : Int) : St := ⟨sp 27 [(0, AV.lst (EK.sl (EK.int IntKind.i64)) q0), (1, AV.lst (EK.sl (EK.int IntKind.i64)) q1), (5, aI t5)], [], []⟩
abbrev ls_L0_E0 (q0 : List (List Int)) (q1 : List (List Int)) : St := ⟨sp 27 [(4, AV.ff)], [], []⟩
abbrev ls_L0_E1 (q0 : List (List Int)) (q1 : List (List Int)) (t5 : Int) : St := ⟨sp 27 [(0, AV.lst (EK.sl (EK.int IntKind.i64)) q0), (1, AV.lst (EK.sl (EK.int IntKind.i64)) q1), (5, aI t5)], [], []⟩
theorem ls_L0_0_0 (q0 : List (List Int)) (q1 : List (List Int)) (t5 : Int) (h1 : t5 < (↑(List.length q0) : Int)) (h2 : 0 ≤ t5) (h3 : t5 < (↑(List.length q1) : Int)) (h4 : pIn (List.getD q0 (Int.toNat t5) (EK.dflt (EK.sl (EK.int IntKind.i64)))) (List.getD q1 (Int.toNat t5) (EK.dflt (EK.sl (EK.int IntKind.i64))))) (h5 : ¬ (List.getD q0 (Int.toNat t5) (EK.dflt (EK.sl (EK.int IntKind.i64))) = List.getD q1 (Int.toNat t5) (EK.dflt (EK.sl (EK.int IntKind.i64))))) : ls_L0 (ls_L0_0 q0 q1 t5) (Ex.ret, (ls_L0_E0 q0 q1)) := Loops.fin (LS.of okA (show rndA (mkCfg Tryz.prog ctrA bw) 60 (lpOf Tryz.prog 88 0) 0 [] [4] [] (ls_L0_0 q0 q1 t5) [(0, true), (0, true)] [] = some (Ex.ret, (ls_L0_E0 q0 q1), ((decide (t5 < (↑(List.length q0) : Int)) = true) :: (decide (0 ≤ t5) = true) :: (decide (t5 < (↑(List.length q0) : Int)) = true) :: (decide (0 ≤ t5) = true) :: (decide (t5 < (↑(List.length q1) : Int)) = true) :: (pIn (List.getD q0 (Int.toNat t5) (EK.dflt (EK.sl (EK.int IntKind.i64)))) (List.getD q1 (Int.toNat t5) (EK.dflt (EK.sl (EK.int IntKind.i64))))) :: ((!decide (List.getD q0 (Int.toNat t5) (EK.dflt (EK.sl (EK.int IntKind.i64))) = List.getD q1 (Int.toNat t5) (EK.dflt (EK.sl (EK.int IntKind.i64))))) = true) :: [])) by kernel_rfl) (AllC.cons (decide_eq_true h1) (AllC.cons (decide_eq_true h2) (AllC.cons (decide_eq_true h1) (AllC.cons (decide_eq_true h2) (AllC.cons (decide_eq_true h3) (AllC.cons (h4) (AllC.cons (congrArg Bool.not (decide_eq_false h5)) AllC.nil)))))))) (fun h => nomatch h)
theorem ls_L0_0_1 (q0 : List (List Int)) (q1 : List (List Int)) (t5 : Int) (h1 : t5 < (↑(List.length q0) : Int)) (h2 : 0 ≤ t5) (h3 : t5 < (↑(List.length q1) : Int)) (h4 : pIn (List.getD q0 (Int.toNat t5) (EK.dflt (EK.sl (EK.int IntKind.i64)))) (List.getD q1 (Int.toNat t5) (EK.dflt (EK.sl (EK.int IntKind.i64))))) (h5 : List.getD q0 (Int.toNat t5) (EK.dflt (EK.sl (EK.int IntKind.i64))) = List.getD q1 (Int.toNat t5) (EK.dflt (EK.sl (EK.int IntKind.i64)))) (h6 : -9223372036854775808 ≤ t5 + 1 ∧ t5 + 1 ≤ 9223372036854775807) {r : Ex × St} (k : ls_L0 (ls_L0_0 q0 q1 (t5 + 1)) r) : ls_L0 (ls_L0_0 q0 q1 t5) r := Loops.go (LS.of okA (show rndA (mkCfg Tryz.prog ctrA bw) 60 (lpOf Tryz.prog 88 0) 0 [] [0, 1, 5] [] (ls_L0_0 q0 q1 t5) [(0, true), (0, false)] [] = some (Ex.normal, (ls_L0_0 q0 q1 (t5 + 1)), ((decide (t5 < (↑(List.length q0) : Int)) = true) :: (decide (0 ≤ t5) = true) :: (decide (t5 < (↑(List.length q0) : Int)) = true) :: (decide (0 ≤ t5) = true) :: (decide (t5 < (↑(List.length q1) : Int)) = true) :: (pIn (List.getD q0 (Int.toNat t5) (EK.dflt (EK.sl (EK.int IntKind.i64)))) (List.getD q1 (Int.toNat t5) (EK.dflt (EK.sl (EK.int IntKind.i64))))) :: ((!decide (List.getD q0 (Int.toNat t5) (EK.dflt (EK.sl (EK.int IntKind.i64))) = List.getD q1 (Int.toNat t5) (EK.dflt (EK.sl (EK.int IntKind.i64))))) = false) :: (inR IntKind.i64 (t5 + 1) = true) :: [])) by kernel_rfl) (AllC.cons (decide_eq_true h1) (AllC.cons (decide_eq_true h2) (AllC.cons (decide_eq_true h1) (AllC.cons (decide_eq_true h2) (AllC.cons (decide_eq_true h3) (AllC.cons (h4) (AllC.cons (congrArg Bool.not (decide_eq_true h5)) (AllC.cons (inR64.2 h6) AllC.nil))))))))) k
theorem ls_L0_0_2 (q0 : List (List Int)) (q1 : List (List Int)) (t5 : Int) (h1 : ¬ (t5 < (↑(List.length q0) : Int))) : ls_L0 (ls_L0_0 q0 q1 t5) (Ex.exit 0, (ls_L0_E1 q0 q1 t5)) := Loops.fin (LS.of okA (show rndA (mkCfg Tryz.prog ctrA bw) 60 (lpOf Tryz.prog 88 0) 0 [] [0, 1, 5] [] (ls_L0_0 q0 q1 t5) [(0, false)] [] = some (Ex.exit 0, (ls_L0_E1 q0 q1 t5), ((decide (t5 < (↑(List.length q0) : Int)) = false) :: [])) by kernel_rfl) (AllC.cons (decide_eq_false h1) AllC.nil)) (fun h => nomatch h)
theorem ls_1 (A B : List (List Int)) (h1 : (↑(List.length A) : Int) = (↑(List.length B) : Int)) (hL1 : ls_L0 (ls_L0_0 A B (0)) (Ex.ret, (ls_L0_E0 A B))) : FC Tryz.prog 88 [.lst (.sl (.int .i64)) A, .lst (.sl (.int .i64)) B] (AV.ff) := fc_fun okA (show funA (mkCfg Tryz.prog ctrA bw) 60 88 [.lst (.sl (.int .i64)) A, .lst (.sl (.int .i64)) B] [(0, false)] [some (viaL Tryz.prog (lpOf Tryz.prog 88 0) [] [0, 1, 5] [] (ls_L0_0 A B (0)) (Ex.ret, (ls_L0_E0 A B)))] = some (AV.ff, ((((↑(List.length A) : Int) != (↑(List.length B) : Int)) = false) :: viaC Tryz.prog (lpOf Tryz.prog 88 0) [0, 1, 5] [] (ls_L0_0 A B (0)) 0 (Ex.ret, (ls_L0_E0 A B)) ([]))) by kernel_rfl) (AllC.cons (bne_eq_false_iff_eq.2 h1) (AllC.via hL1 AllC.nil))
theorem ls_2 (A B : List (List Int)) (t5 : Int) (h1 : (↑(List.length A) : Int) = (↑(List.length B) : Int)) (hL1 : ls_L0 (ls_L0_0 A B (0)) (Ex.exit 0, (ls_L0_E1 A B t5))) : FC Tryz.prog 88 [.lst (.sl (.int .i64)) A, .lst (.sl (.int .i64)) B] (AV.tt) := fc_fun okA (show funA (mkCfg Tryz.prog ctrA bw) 60 88 [.lst (.sl (.int .i64)) A, .lst (.sl (.int .i64)) B] [(0, false)] [some (viaL Tryz.prog (lpOf Tryz.prog 88 0) [] [0, 1, 5] [] (ls_L0_0 A B (0)) (Ex.exit 0, (ls_L0_E1 A B t5)))] = some (AV.tt, ((((↑(List.length A) : Int) != (↑(List.length B) : Int)) = false) :: viaC Tryz.prog (lpOf Tryz.prog 88 0) [0, 1, 5] [] (ls_L0_0 A B (0)) 0 (Ex.exit 0, (ls_L0_E1 A B t5)) ([]))) by kernel_rfl) (AllC.cons (bne_eq_false_iff_eq.2 h1) (AllC.via hL1 AllC.nil))
/-- Lists of lists that aren't long. -/
def pLi (x : List (List Int)) : Prop := (decide (x.length ≤ 1048576) && x.all fun l => decide (l.length ≤ 1048576)) = true
theorem pLi_iff {x : List (List Int)} : pLi x ↔ x.length ≤ 1048576 ∧ ∀ l ∈ x, l.length ≤ 1048576 := by
  unfold pLi; rw [Bool.and_eq_true, decide_eq_true_eq, List.all_eq_true]
  exact ⟨fun h => ⟨h.1, fun l hl => of_decide_eq_true (h.2 l hl)⟩, fun h => ⟨h.1, fun l hl => decide_eq_true (h.2 l hl)⟩⟩
instance tLi2 {x y : List (List Int)} : Tst (pLi x ∧ pLi y) := ⟨(decide (x.length ≤ 1048576) && x.all fun l => decide (l.length ≤ 1048576)) && (decide (y.length ≤ 1048576) && y.all fun l => decide (l.length ≤ 1048576)), fun h => by rwa [Bool.and_eq_true] at h⟩
theorem ls_loop (A B : List (List Int)) (hl : A.length = B.length) (hA : pLi A) (hB : pLi B) : ∀ (n i : Nat), i + n = A.length →
    A.drop i = B.drop i ∧ ls_L0 (ls_L0_0 A B i) (Ex.exit 0, ls_L0_E1 A B A.length) ∨ A.drop i ≠ B.drop i ∧ ls_L0 (ls_L0_0 A B i) (Ex.ret, ls_L0_E0 A B)
  | 0, i, hi => by
    obtain rfl : i = A.length := by omega
    exact .inl ⟨by rw [List.drop_length, hl, List.drop_length], ls_L0_0_2 A B _ (by omega)⟩
  | n + 1, i, hi => by
    have ha : i < A.length := by omega
    have hb : i < B.length := by omega
    have ga : A.getD (Int.toNat (i : Int)) (EK.dflt (EK.sl (EK.int IntKind.i64))) = A[i] := by
      rw [Int.toNat_natCast, List.getD_eq_getElem?_getD, List.getElem?_eq_getElem ha]; rfl
    have gb : B.getD (Int.toNat (i : Int)) (EK.dflt (EK.sl (EK.int IntKind.i64))) = B[i] := by
      rw [Int.toNat_natCast, List.getD_eq_getElem?_getD, List.getElem?_eq_getElem hb]; rfl
    have da : A.drop i = A[i] :: A.drop (i + 1) := List.drop_eq_getElem_cons ha
    have db : B.drop i = B[i] :: B.drop (i + 1) := List.drop_eq_getElem_cons hb
    have hp : pIn A[i] B[i] := ⟨(pLi_iff.1 hA).2 _ (List.getElem_mem ha), (pLi_iff.1 hB).2 _ (List.getElem_mem hb)⟩
    have l1 := (pLi_iff.1 hA).1
    by_cases h : A[i] = B[i]
    · have go : ∀ r, ls_L0 (ls_L0_0 A B ((i : Int) + 1)) r → ls_L0 (ls_L0_0 A B i) r := fun r hr =>
        ls_L0_0_1 A B i (by omega) (by omega) (by omega) (by rw [ga, gb]; exact hp) (by rw [ga, gb]; exact h) (by omega) hr
      rcases ls_loop A B hl hA hB n (i + 1) (by omega) with ⟨h1, h2⟩ | ⟨h1, h2⟩
      · exact .inl ⟨by rw [da, db, h, h1], go _ h2⟩
      · exact .inr ⟨fun h3 => h1 (by rw [da, db] at h3; exact (List.cons.inj h3).2), go _ h2⟩
    · exact .inr ⟨fun h3 => h (by rw [da, db] at h3; exact (List.cons.inj h3).1), ls_L0_0_0 A B i (by omega) (by omega) (by omega) (by rw [ga, gb]; exact hp) (by rw [ga, gb]; exact h)⟩
theorem lists_fc (A B : List (List Int)) (h : pLi A ∧ pLi B) : FC Tryz.prog 88 [.lst (.sl (.int .i64)) A, .lst (.sl (.int .i64)) B] (.lit (.bool (decide (A = B)))) := by
  by_cases hl : A.length = B.length
  · rcases ls_loop A B hl h.1 h.2 A.length 0 (by omega) with ⟨h1, h2⟩ | ⟨h1, h2⟩
    · exact litB (fun _ => ls_2 A B _ (by omega) h2) fun h3 => absurd h1 h3
    · exact litB (fun h3 => absurd h3 h1) fun _ => ls_1 A B (by omega) h2
  · exact litB (fun h3 => absurd (congrArg _ h3) hl) fun _ => ls_0 A B (by omega)
def ctrB : Ctr := (88, cD2 (.sl (.sl (.int .i64))) (.sl (.sl (.int .i64))) (fun A B => pLi A ∧ pLi B) (fun A B => .lit (.bool (decide (A = B))))) :: ctrA
theorem ctrB_all : ∀ p ∈ ctrB, CtrOK Tryz.prog p.1 p.2 := CAll.cons (cD2_ok lists_fc) ctrA_all
theorem okB : (mkCfg Tryz.prog ctrB bw).OK := cfg_ok ctrB_all

end Go.Proofs.YtloaeinogiplbaaGreatDoor
end

section
open Go Go.Ev Go.RowKit
namespace Go.Proofs.YtloaeinogiplbaaGreatDoor
open Go.Proofs
set_option maxRecDepth 100000
set_option maxHeartbeats 1000000
set_option linter.unusedVariables false
set_option linter.unusedSimpArgs false


theorem sn_0 (x y : List (List Int) × List Int) (h1 : pLi (Prod.fst x) ∧ pLi (Prod.fst y)) (h2 : Prod.fst x = Prod.fst y) (h3 : pIn (Prod.snd x) (Prod.snd y)) : FC Tryz.prog 21 [numK.val x, numK.val y] (AV.lit (Value.bool (decide (Prod.snd x = Prod.snd y)))) := fc_fun okB (show funA (mkCfg Tryz.prog ctrB bw) 60 21 [numK.val x, numK.val y] [(0, true)] [] = some (AV.lit (Value.bool (decide (Prod.snd x = Prod.snd y))), ((pLi (Prod.fst x) ∧ pLi (Prod.fst y)) :: (decide (Prod.fst x = Prod.fst y) = true) :: (pIn (Prod.snd x) (Prod.snd y)) :: [])) by kernel_rfl) (AllC.cons (h1) (AllC.cons (decide_eq_true h2) (AllC.cons (h3) AllC.nil)))
theorem sn_1 (x y : List (List Int) × List Int) (h1 : pLi (Prod.fst x) ∧ pLi (Prod.fst y)) (h2 : ¬ (Prod.fst x = Prod.fst y)) : FC Tryz.prog 21 [numK.val x, numK.val y] (AV.ff) := fc_fun okB (show funA (mkCfg Tryz.prog ctrB bw) 60 21 [numK.val x, numK.val y] [(0, false)] [] = some (AV.ff, ((pLi (Prod.fst x) ∧ pLi (Prod.fst y)) :: (decide (Prod.fst x = Prod.fst y) = false) :: [])) by kernel_rfl) (AllC.cons (h1) (AllC.cons (decide_eq_false h2) AllC.nil))
/-- Numbers that aren't long. -/
def pNl (x : List (List Int) × List Int) : Prop := pLi x.1 ∧ x.2.length ≤ 1048576
instance tNl {x : List (List Int) × List Int} : Tst (pNl x) := ⟨(decide (x.1.length ≤ 1048576) && x.1.all fun l => decide (l.length ≤ 1048576)) && decide (x.2.length ≤ 1048576), fun h => by
  rw [Bool.and_eq_true, decide_eq_true_eq] at h; exact h⟩
theorem sameNum_fc (x y : List (List Int) × List Int) (h : pNl x ∧ pNl y) : FC Tryz.prog 21 [numK.val x, numK.val y] (.lit (.bool (decide (x = y)))) := by
  obtain ⟨⟨h1, h2⟩, h3, h4⟩ := h
  by_cases e : x.1 = y.1
  · have := sn_0 x y ⟨h1, h3⟩ e ⟨h2, h4⟩
    rwa [show decide (x = y) = decide (x.2 = y.2) from decide_eq_decide.2 ⟨fun h => by rw [h], fun h => Prod.ext e h⟩]
  · exact litB (fun h => absurd (congrArg Prod.fst h) e) fun _ => sn_1 x y ⟨h1, h3⟩ e
abbrev NumT := List (List Int) × List Int
abbrev vecK : EK := .pr numK numK
abbrev matK : EK := .pr numK (.pr numK (.pr numK numK))
def ctrD : Ctr := (21, cD2 numK numK (fun x y => pNl x ∧ pNl y) (fun A B => .lit (.bool (decide (A = B))))) :: ctrB
theorem ctrD_all : ∀ p ∈ ctrD, CtrOK Tryz.prog p.1 p.2 := CAll.cons (cD2_ok sameNum_fc) ctrB_all
theorem okD : (mkCfg Tryz.prog ctrD bw).OK := cfg_ok ctrD_all

end Go.Proofs.YtloaeinogiplbaaGreatDoor
end

section
open Go Go.Ev Go.RowKit
namespace Go.Proofs.YtloaeinogiplbaaGreatDoor
open Go.Proofs
set_option maxRecDepth 100000
set_option maxHeartbeats 1000000
set_option linter.unusedVariables false
set_option linter.unusedSimpArgs false


theorem sv_0 (a b c d : NumT) (h1 : pNl (Prod.fst (Prod.fst (a, b)), Prod.snd (Prod.fst (a, b))) ∧ pNl (Prod.fst (Prod.fst (c, d)), Prod.snd (Prod.fst (c, d)))) (h2 : (Prod.fst (Prod.fst (a, b)), Prod.snd (Prod.fst (a, b))) = (Prod.fst (Prod.fst (c, d)), Prod.snd (Prod.fst (c, d)))) (h3 : pNl (Prod.fst (Prod.snd (a, b)), Prod.snd (Prod.snd (a, b))) ∧ pNl (Prod.fst (Prod.snd (c, d)), Prod.snd (Prod.snd (c, d)))) : FC Tryz.prog 41 [vecK.val (a, b), vecK.val (c, d)] (AV.lit (Value.bool (decide ((Prod.fst (Prod.snd (a, b)), Prod.snd (Prod.snd (a, b))) = (Prod.fst (Prod.snd (c, d)), Prod.snd (Prod.snd (c, d))))))) := fc_fun okD (show funA (mkCfg Tryz.prog ctrD bw) 60 41 [vecK.val (a, b), vecK.val (c, d)] [(0, true)] [] = some (AV.lit (Value.bool (decide ((Prod.fst (Prod.snd (a, b)), Prod.snd (Prod.snd (a, b))) = (Prod.fst (Prod.snd (c, d)), Prod.snd (Prod.snd (c, d)))))), ((pNl (Prod.fst (Prod.fst (a, b)), Prod.snd (Prod.fst (a, b))) ∧ pNl (Prod.fst (Prod.fst (c, d)), Prod.snd (Prod.fst (c, d)))) :: (decide ((Prod.fst (Prod.fst (a, b)), Prod.snd (Prod.fst (a, b))) = (Prod.fst (Prod.fst (c, d)), Prod.snd (Prod.fst (c, d)))) = true) :: (pNl (Prod.fst (Prod.snd (a, b)), Prod.snd (Prod.snd (a, b))) ∧ pNl (Prod.fst (Prod.snd (c, d)), Prod.snd (Prod.snd (c, d)))) :: [])) by kernel_rfl) (AllC.cons (h1) (AllC.cons (decide_eq_true h2) (AllC.cons (h3) AllC.nil)))
theorem sv_1 (a b c d : NumT) (h1 : pNl (Prod.fst (Prod.fst (a, b)), Prod.snd (Prod.fst (a, b))) ∧ pNl (Prod.fst (Prod.fst (c, d)), Prod.snd (Prod.fst (c, d)))) (h2 : ¬ ((Prod.fst (Prod.fst (a, b)), Prod.snd (Prod.fst (a, b))) = (Prod.fst (Prod.fst (c, d)), Prod.snd (Prod.fst (c, d))))) : FC Tryz.prog 41 [vecK.val (a, b), vecK.val (c, d)] (AV.ff) := fc_fun okD (show funA (mkCfg Tryz.prog ctrD bw) 60 41 [vecK.val (a, b), vecK.val (c, d)] [(0, false)] [] = some (AV.ff, ((pNl (Prod.fst (Prod.fst (a, b)), Prod.snd (Prod.fst (a, b))) ∧ pNl (Prod.fst (Prod.fst (c, d)), Prod.snd (Prod.fst (c, d)))) :: (decide ((Prod.fst (Prod.fst (a, b)), Prod.snd (Prod.fst (a, b))) = (Prod.fst (Prod.fst (c, d)), Prod.snd (Prod.fst (c, d)))) = false) :: [])) by kernel_rfl) (AllC.cons (h1) (AllC.cons (decide_eq_false h2) AllC.nil))
theorem sm_0 (a b c d a' b' c' d' : NumT) (h1 : pNl (Prod.fst (Prod.fst (a, b, c, d)), Prod.snd (Prod.fst (a, b, c, d))) ∧ pNl (Prod.fst (Prod.fst (a', b', c', d')), Prod.snd (Prod.fst (a', b', c', d')))) (h2 : (Prod.fst (Prod.fst (a, b, c, d)), Prod.snd (Prod.fst (a, b, c, d))) = (Prod.fst (Prod.fst (a', b', c', d')), Prod.snd (Prod.fst (a', b', c', d')))) (h3 : pNl (Prod.fst (Prod.fst (Prod.snd (a, b, c, d))), Prod.snd (Prod.fst (Prod.snd (a, b, c, d)))) ∧ pNl (Prod.fst (Prod.fst (Prod.snd (a', b', c', d'))), Prod.snd (Prod.fst (Prod.snd (a', b', c', d'))))) (h4 : (Prod.fst (Prod.fst (Prod.snd (a, b, c, d))), Prod.snd (Prod.fst (Prod.snd (a, b, c, d)))) = (Prod.fst (Prod.fst (Prod.snd (a', b', c', d'))), Prod.snd (Prod.fst (Prod.snd (a', b', c', d'))))) (h5 : pNl (Prod.fst (Prod.fst (Prod.snd (Prod.snd (a, b, c, d)))), Prod.snd (Prod.fst (Prod.snd (Prod.snd (a, b, c, d))))) ∧ pNl (Prod.fst (Prod.fst (Prod.snd (Prod.snd (a', b', c', d')))), Prod.snd (Prod.fst (Prod.snd (Prod.snd (a', b', c', d')))))) (h6 : (Prod.fst (Prod.fst (Prod.snd (Prod.snd (a, b, c, d)))), Prod.snd (Prod.fst (Prod.snd (Prod.snd (a, b, c, d))))) = (Prod.fst (Prod.fst (Prod.snd (Prod.snd (a', b', c', d')))), Prod.snd (Prod.fst (Prod.snd (Prod.snd (a', b', c', d')))))) (h7 : pNl (Prod.fst (Prod.snd (Prod.snd (Prod.snd (a, b, c, d)))), Prod.snd (Prod.snd (Prod.snd (Prod.snd (a, b, c, d))))) ∧ pNl (Prod.fst (Prod.snd (Prod.snd (Prod.snd (a', b', c', d')))), Prod.snd (Prod.snd (Prod.snd (Prod.snd (a', b', c', d')))))) : FC Tryz.prog 51 [matK.val (a, b, c, d), matK.val (a', b', c', d')] (AV.lit (Value.bool (decide ((Prod.fst (Prod.snd (Prod.snd (Prod.snd (a, b, c, d)))), Prod.snd (Prod.snd (Prod.snd (Prod.snd (a, b, c, d))))) = (Prod.fst (Prod.snd (Prod.snd (Prod.snd (a', b', c', d')))), Prod.snd (Prod.snd (Prod.snd (Prod.snd (a', b', c', d'))))))))) := fc_fun okD (show funA (mkCfg Tryz.prog ctrD bw) 60 51 [matK.val (a, b, c, d), matK.val (a', b', c', d')] [(0, true), (0, true), (0, true)] [] = some (AV.lit (Value.bool (decide ((Prod.fst (Prod.snd (Prod.snd (Prod.snd (a, b, c, d)))), Prod.snd (Prod.snd (Prod.snd (Prod.snd (a, b, c, d))))) = (Prod.fst (Prod.snd (Prod.snd (Prod.snd (a', b', c', d')))), Prod.snd (Prod.snd (Prod.snd (Prod.snd (a', b', c', d')))))))), ((pNl (Prod.fst (Prod.fst (a, b, c, d)), Prod.snd (Prod.fst (a, b, c, d))) ∧ pNl (Prod.fst (Prod.fst (a', b', c', d')), Prod.snd (Prod.fst (a', b', c', d')))) :: (decide ((Prod.fst (Prod.fst (a, b, c, d)), Prod.snd (Prod.fst (a, b, c, d))) = (Prod.fst (Prod.fst (a', b', c', d')), Prod.snd (Prod.fst (a', b', c', d')))) = true) :: (pNl (Prod.fst (Prod.fst (Prod.snd (a, b, c, d))), Prod.snd (Prod.fst (Prod.snd (a, b, c, d)))) ∧ pNl (Prod.fst (Prod.fst (Prod.snd (a', b', c', d'))), Prod.snd (Prod.fst (Prod.snd (a', b', c', d'))))) :: (decide ((Prod.fst (Prod.fst (Prod.snd (a, b, c, d))), Prod.snd (Prod.fst (Prod.snd (a, b, c, d)))) = (Prod.fst (Prod.fst (Prod.snd (a', b', c', d'))), Prod.snd (Prod.fst (Prod.snd (a', b', c', d'))))) = true) :: (pNl (Prod.fst (Prod.fst (Prod.snd (Prod.snd (a, b, c, d)))), Prod.snd (Prod.fst (Prod.snd (Prod.snd (a, b, c, d))))) ∧ pNl (Prod.fst (Prod.fst (Prod.snd (Prod.snd (a', b', c', d')))), Prod.snd (Prod.fst (Prod.snd (Prod.snd (a', b', c', d')))))) :: (decide ((Prod.fst (Prod.fst (Prod.snd (Prod.snd (a, b, c, d)))), Prod.snd (Prod.fst (Prod.snd (Prod.snd (a, b, c, d))))) = (Prod.fst (Prod.fst (Prod.snd (Prod.snd (a', b', c', d')))), Prod.snd (Prod.fst (Prod.snd (Prod.snd (a', b', c', d')))))) = true) :: (pNl (Prod.fst (Prod.snd (Prod.snd (Prod.snd (a, b, c, d)))), Prod.snd (Prod.snd (Prod.snd (Prod.snd (a, b, c, d))))) ∧ pNl (Prod.fst (Prod.snd (Prod.snd (Prod.snd (a', b', c', d')))), Prod.snd (Prod.snd (Prod.snd (Prod.snd (a', b', c', d')))))) :: [])) by kernel_rfl) (AllC.cons (h1) (AllC.cons (decide_eq_true h2) (AllC.cons (h3) (AllC.cons (decide_eq_true h4) (AllC.cons (h5) (AllC.cons (decide_eq_true h6) (AllC.cons (h7) AllC.nil)))))))
theorem sm_1 (a b c d a' b' c' d' : NumT) (h1 : pNl (Prod.fst (Prod.fst (a, b, c, d)), Prod.snd (Prod.fst (a, b, c, d))) ∧ pNl (Prod.fst (Prod.fst (a', b', c', d')), Prod.snd (Prod.fst (a', b', c', d')))) (h2 : (Prod.fst (Prod.fst (a, b, c, d)), Prod.snd (Prod.fst (a, b, c, d))) = (Prod.fst (Prod.fst (a', b', c', d')), Prod.snd (Prod.fst (a', b', c', d')))) (h3 : pNl (Prod.fst (Prod.fst (Prod.snd (a, b, c, d))), Prod.snd (Prod.fst (Prod.snd (a, b, c, d)))) ∧ pNl (Prod.fst (Prod.fst (Prod.snd (a', b', c', d'))), Prod.snd (Prod.fst (Prod.snd (a', b', c', d'))))) (h4 : (Prod.fst (Prod.fst (Prod.snd (a, b, c, d))), Prod.snd (Prod.fst (Prod.snd (a, b, c, d)))) = (Prod.fst (Prod.fst (Prod.snd (a', b', c', d'))), Prod.snd (Prod.fst (Prod.snd (a', b', c', d'))))) (h5 : pNl (Prod.fst (Prod.fst (Prod.snd (Prod.snd (a, b, c, d)))), Prod.snd (Prod.fst (Prod.snd (Prod.snd (a, b, c, d))))) ∧ pNl (Prod.fst (Prod.fst (Prod.snd (Prod.snd (a', b', c', d')))), Prod.snd (Prod.fst (Prod.snd (Prod.snd (a', b', c', d')))))) (h6 : ¬ ((Prod.fst (Prod.fst (Prod.snd (Prod.snd (a, b, c, d)))), Prod.snd (Prod.fst (Prod.snd (Prod.snd (a, b, c, d))))) = (Prod.fst (Prod.fst (Prod.snd (Prod.snd (a', b', c', d')))), Prod.snd (Prod.fst (Prod.snd (Prod.snd (a', b', c', d'))))))) : FC Tryz.prog 51 [matK.val (a, b, c, d), matK.val (a', b', c', d')] (AV.ff) := fc_fun okD (show funA (mkCfg Tryz.prog ctrD bw) 60 51 [matK.val (a, b, c, d), matK.val (a', b', c', d')] [(0, true), (0, true), (0, false)] [] = some (AV.ff, ((pNl (Prod.fst (Prod.fst (a, b, c, d)), Prod.snd (Prod.fst (a, b, c, d))) ∧ pNl (Prod.fst (Prod.fst (a', b', c', d')), Prod.snd (Prod.fst (a', b', c', d')))) :: (decide ((Prod.fst (Prod.fst (a, b, c, d)), Prod.snd (Prod.fst (a, b, c, d))) = (Prod.fst (Prod.fst (a', b', c', d')), Prod.snd (Prod.fst (a', b', c', d')))) = true) :: (pNl (Prod.fst (Prod.fst (Prod.snd (a, b, c, d))), Prod.snd (Prod.fst (Prod.snd (a, b, c, d)))) ∧ pNl (Prod.fst (Prod.fst (Prod.snd (a', b', c', d'))), Prod.snd (Prod.fst (Prod.snd (a', b', c', d'))))) :: (decide ((Prod.fst (Prod.fst (Prod.snd (a, b, c, d))), Prod.snd (Prod.fst (Prod.snd (a, b, c, d)))) = (Prod.fst (Prod.fst (Prod.snd (a', b', c', d'))), Prod.snd (Prod.fst (Prod.snd (a', b', c', d'))))) = true) :: (pNl (Prod.fst (Prod.fst (Prod.snd (Prod.snd (a, b, c, d)))), Prod.snd (Prod.fst (Prod.snd (Prod.snd (a, b, c, d))))) ∧ pNl (Prod.fst (Prod.fst (Prod.snd (Prod.snd (a', b', c', d')))), Prod.snd (Prod.fst (Prod.snd (Prod.snd (a', b', c', d')))))) :: (decide ((Prod.fst (Prod.fst (Prod.snd (Prod.snd (a, b, c, d)))), Prod.snd (Prod.fst (Prod.snd (Prod.snd (a, b, c, d))))) = (Prod.fst (Prod.fst (Prod.snd (Prod.snd (a', b', c', d')))), Prod.snd (Prod.fst (Prod.snd (Prod.snd (a', b', c', d')))))) = false) :: [])) by kernel_rfl) (AllC.cons (h1) (AllC.cons (decide_eq_true h2) (AllC.cons (h3) (AllC.cons (decide_eq_true h4) (AllC.cons (h5) (AllC.cons (decide_eq_false h6) AllC.nil))))))
theorem sm_2 (a b c d a' b' c' d' : NumT) (h1 : pNl (Prod.fst (Prod.fst (a, b, c, d)), Prod.snd (Prod.fst (a, b, c, d))) ∧ pNl (Prod.fst (Prod.fst (a', b', c', d')), Prod.snd (Prod.fst (a', b', c', d')))) (h2 : (Prod.fst (Prod.fst (a, b, c, d)), Prod.snd (Prod.fst (a, b, c, d))) = (Prod.fst (Prod.fst (a', b', c', d')), Prod.snd (Prod.fst (a', b', c', d')))) (h3 : pNl (Prod.fst (Prod.fst (Prod.snd (a, b, c, d))), Prod.snd (Prod.fst (Prod.snd (a, b, c, d)))) ∧ pNl (Prod.fst (Prod.fst (Prod.snd (a', b', c', d'))), Prod.snd (Prod.fst (Prod.snd (a', b', c', d'))))) (h4 : ¬ ((Prod.fst (Prod.fst (Prod.snd (a, b, c, d))), Prod.snd (Prod.fst (Prod.snd (a, b, c, d)))) = (Prod.fst (Prod.fst (Prod.snd (a', b', c', d'))), Prod.snd (Prod.fst (Prod.snd (a', b', c', d')))))) : FC Tryz.prog 51 [matK.val (a, b, c, d), matK.val (a', b', c', d')] (AV.ff) := fc_fun okD (show funA (mkCfg Tryz.prog ctrD bw) 60 51 [matK.val (a, b, c, d), matK.val (a', b', c', d')] [(0, true), (0, false)] [] = some (AV.ff, ((pNl (Prod.fst (Prod.fst (a, b, c, d)), Prod.snd (Prod.fst (a, b, c, d))) ∧ pNl (Prod.fst (Prod.fst (a', b', c', d')), Prod.snd (Prod.fst (a', b', c', d')))) :: (decide ((Prod.fst (Prod.fst (a, b, c, d)), Prod.snd (Prod.fst (a, b, c, d))) = (Prod.fst (Prod.fst (a', b', c', d')), Prod.snd (Prod.fst (a', b', c', d')))) = true) :: (pNl (Prod.fst (Prod.fst (Prod.snd (a, b, c, d))), Prod.snd (Prod.fst (Prod.snd (a, b, c, d)))) ∧ pNl (Prod.fst (Prod.fst (Prod.snd (a', b', c', d'))), Prod.snd (Prod.fst (Prod.snd (a', b', c', d'))))) :: (decide ((Prod.fst (Prod.fst (Prod.snd (a, b, c, d))), Prod.snd (Prod.fst (Prod.snd (a, b, c, d)))) = (Prod.fst (Prod.fst (Prod.snd (a', b', c', d'))), Prod.snd (Prod.fst (Prod.snd (a', b', c', d'))))) = false) :: [])) by kernel_rfl) (AllC.cons (h1) (AllC.cons (decide_eq_true h2) (AllC.cons (h3) (AllC.cons (decide_eq_false h4) AllC.nil))))
theorem sm_3 (a b c d a' b' c' d' : NumT) (h1 : pNl (Prod.fst (Prod.fst (a, b, c, d)), Prod.snd (Prod.fst (a, b, c, d))) ∧ pNl (Prod.fst (Prod.fst (a', b', c', d')), Prod.snd (Prod.fst (a', b', c', d')))) (h2 : ¬ ((Prod.fst (Prod.fst (a, b, c, d)), Prod.snd (Prod.fst (a, b, c, d))) = (Prod.fst (Prod.fst (a', b', c', d')), Prod.snd (Prod.fst (a', b', c', d'))))) : FC Tryz.prog 51 [matK.val (a, b, c, d), matK.val (a', b', c', d')] (AV.ff) := fc_fun okD (show funA (mkCfg Tryz.prog ctrD bw) 60 51 [matK.val (a, b, c, d), matK.val (a', b', c', d')] [(0, false)] [] = some (AV.ff, ((pNl (Prod.fst (Prod.fst (a, b, c, d)), Prod.snd (Prod.fst (a, b, c, d))) ∧ pNl (Prod.fst (Prod.fst (a', b', c', d')), Prod.snd (Prod.fst (a', b', c', d')))) :: (decide ((Prod.fst (Prod.fst (a, b, c, d)), Prod.snd (Prod.fst (a, b, c, d))) = (Prod.fst (Prod.fst (a', b', c', d')), Prod.snd (Prod.fst (a', b', c', d')))) = false) :: [])) by kernel_rfl) (AllC.cons (h1) (AllC.cons (decide_eq_false h2) AllC.nil))
def pVe (x : NumT × NumT) : Prop := pNl x.1 ∧ pNl x.2
def pMa (x : NumT × NumT × NumT × NumT) : Prop := pNl x.1 ∧ pNl x.2.1 ∧ pNl x.2.2.1 ∧ pNl x.2.2.2
instance tVe {x : NumT × NumT} : Tst (pVe x) := inferInstanceAs (Tst (_ ∧ _))
instance tMa {x : NumT × NumT × NumT × NumT} : Tst (pMa x) := inferInstanceAs (Tst (pNl x.1 ∧ pNl x.2.1 ∧ pNl x.2.2.1 ∧ pNl x.2.2.2))
theorem sameVec_fc (x y : NumT × NumT) (h : pVe x ∧ pVe y) : FC Tryz.prog 41 [vecK.val x, vecK.val y] (.lit (.bool (decide (x = y)))) := by
  obtain ⟨a, b⟩ := x
  obtain ⟨c, d⟩ := y
  obtain ⟨⟨h1, h2⟩, h3, h4⟩ := h
  by_cases e : a = c
  · have := sv_0 a b c d ⟨h1, h3⟩ e ⟨h2, h4⟩
    rwa [show decide ((a, b) = (c, d)) = decide (b = d) from decide_eq_decide.2 ⟨fun h => (Prod.mk.inj h).2, fun h => Prod.ext e h⟩]
  · exact litB (fun h => absurd (Prod.mk.inj h).1 e) fun _ => sv_1 a b c d ⟨h1, h3⟩ e
theorem sameMat_fc (x y : NumT × NumT × NumT × NumT) (h : pMa x ∧ pMa y) : FC Tryz.prog 51 [matK.val x, matK.val y] (.lit (.bool (decide (x = y)))) := by
  obtain ⟨a, b, c, d⟩ := x
  obtain ⟨a', b', c', d'⟩ := y
  obtain ⟨⟨h1, h2, h3, h4⟩, k1, k2, k3, k4⟩ := h
  by_cases e1 : a = a'
  case neg => exact litB (fun h => absurd (Prod.mk.inj h).1 e1) fun _ => sm_3 a b c d a' b' c' d' ⟨h1, k1⟩ e1
  by_cases e2 : b = b'
  case neg => exact litB (fun h => absurd (Prod.mk.inj (Prod.mk.inj h).2).1 e2) fun _ => sm_2 a b c d a' b' c' d' ⟨h1, k1⟩ e1 ⟨h2, k2⟩ e2
  by_cases e3 : c = c'
  case neg => exact litB (fun h => absurd (Prod.mk.inj (Prod.mk.inj (Prod.mk.inj h).2).2).1 e3) fun _ => sm_1 a b c d a' b' c' d' ⟨h1, k1⟩ e1 ⟨h2, k2⟩ e2 ⟨h3, k3⟩ e3
  have := sm_0 a b c d a' b' c' d' ⟨h1, k1⟩ e1 ⟨h2, k2⟩ e2 ⟨h3, k3⟩ e3 ⟨h4, k4⟩
  rwa [show decide ((a, b, c, d) = (a', b', c', d')) = decide (d = d') from decide_eq_decide.2 ⟨fun h => (Prod.mk.inj (Prod.mk.inj (Prod.mk.inj h).2).2).2, fun h => by rw [e1, e2, e3, h]⟩]
def ctrS : Ctr := (41, cD2 vecK vecK (fun x y => pVe x ∧ pVe y) (fun A B => .lit (.bool (decide (A = B))))) :: (51, cD2 matK matK (fun x y => pMa x ∧ pMa y) (fun A B => .lit (.bool (decide (A = B))))) :: ctrD
theorem ctrS_all : ∀ p ∈ ctrS, CtrOK Tryz.prog p.1 p.2 := CAll.cons (cD2_ok sameVec_fc) <| CAll.cons (cD2_ok sameMat_fc) ctrD_all
theorem okS : (mkCfg Tryz.prog ctrS bw).OK := cfg_ok ctrS_all

end Go.Proofs.YtloaeinogiplbaaGreatDoor
end

section
open Go Go.Ev Go.RowKit
namespace Go.Proofs.YtloaeinogiplbaaGreatDoor
open Go.Proofs
set_option maxRecDepth 100000
set_option maxHeartbeats 1000000
set_option linter.unusedVariables false
set_option linter.unusedSimpArgs false
/-- A number, a vector, a matrix of which nothing is known. -/
abbrev jN : AV := .agg [.junk, .junk]
abbrev jV : AV := .agg [.junk, .junk, .junk, .junk]
abbrev jM : AV := .agg [.junk, .junk, .junk, .junk, .junk, .junk, .junk, .junk]
abbrev pN : AV := .lit (.pointer none)
abbrev zN : AV := .agg [.lit (.slice none 0 0), .lit (.slice none 0 0)]


theorem nlNormal : conA (mkCfg Tryz.prog ctrS bw) 60 22 [pN, jN] = some (AV.agg [aN, aN], []) := by kernel_rfl
theorem nlAdd : conA (mkCfg Tryz.prog ctrS bw) 60 24 [pN, jN, jN] = some (AV.agg [aN, aN], []) := by kernel_rfl
theorem nlSub : conA (mkCfg Tryz.prog ctrS bw) 60 26 [pN, jN, jN] = some (AV.agg [aN, aN], []) := by kernel_rfl
theorem nlMul : conA (mkCfg Tryz.prog ctrS bw) 60 28 [pN, jN, jN] = some (AV.agg [aN, aN], []) := by kernel_rfl
theorem nlQuo : conA (mkCfg Tryz.prog ctrS bw) 60 19 [pN, jN, jN] = some (AV.tup [AV.agg [aN, aN], aI 1], []) := by kernel_rfl
theorem nlSign : conA (mkCfg Tryz.prog ctrS bw) 60 30 [pN, jN] = some (aI 0, []) := by kernel_rfl
theorem nlCmp : conA (mkCfg Tryz.prog ctrS bw) 60 32 [pN, jN, jN] = some (aI 0, []) := by kernel_rfl
theorem nlFloor : conA (mkCfg Tryz.prog ctrS bw) 60 33 [pN, jN] = some (aN, []) := by kernel_rfl
theorem nlScaled : conA (mkCfg Tryz.prog ctrS bw) 60 57 [pN, jN, .junk] = some (AV.tup [aN, aI 1], []) := by kernel_rfl
theorem nlNorm : conA (mkCfg Tryz.prog ctrS bw) 60 53 [pN, jN] = some (AV.agg [aN, aN], []) := by kernel_rfl
theorem nlTrace : conA (mkCfg Tryz.prog ctrS bw) 60 54 [pN, jN] = some (AV.agg [aN, aN], []) := by kernel_rfl
theorem nlFormat : conA (mkCfg Tryz.prog ctrS bw) 60 76 [pN, jN] = some (AV.lit (Value.string (ByteArray.mk (Array.mk []))), []) := by kernel_rfl
theorem nlParse : conA (mkCfg Tryz.prog ctrS bw) 60 75 [pN, .junk] = some (AV.tup [AV.agg [aN, aN], aI 1], []) := by kernel_rfl
theorem nlField : conA (mkCfg Tryz.prog ctrS bw) 60 38 [pN] = some (AV.agg [aN, aI 0, aI 0, aI 0], []) := by kernel_rfl
def ctrU : Ctr := (22, cJ [pN, jN] zN) :: (24, cJ [pN, jN, jN] zN) :: (26, cJ [pN, jN, jN] zN) :: (28, cJ [pN, jN, jN] zN) :: (19, cJ [pN, jN, jN] (.tup [zN, .lit (.int .i64 1)])) :: (30, cJ [pN, jN] (.lit (.int .i64 0))) :: (32, cJ [pN, jN, jN] (.lit (.int .i64 0))) :: (33, cJ [pN, jN] (.lit (.slice none 0 0))) :: (57, cJ [pN, jN, .junk] (.tup [.lit (.slice none 0 0), .lit (.int .i64 1)])) :: (53, cJ [pN, jN] zN) :: (54, cJ [pN, jN] zN) :: (76, cJ [pN, jN] (.lit (.string ⟨#[]⟩))) :: (75, cJ [pN, .junk] (.tup [zN, .lit (.int .i64 1)])) :: (38, cJ [pN] (.agg [.lit (.slice none 0 0), .lit (.int .i64 0), .lit (.int .i64 0), .lit (.int .i64 0)])) :: ctrS
theorem ctrU_all : ∀ p ∈ ctrU, CtrOK Tryz.prog p.1 p.2 := CAll.cons (cJ_ok (fc_con okS nlNormal .nil)) <| CAll.cons (cJ_ok (fc_con okS nlAdd .nil)) <| CAll.cons (cJ_ok (fc_con okS nlSub .nil)) <| CAll.cons (cJ_ok (fc_con okS nlMul .nil)) <| CAll.cons (cJ_ok (fc_con okS nlQuo .nil)) <| CAll.cons (cJ_ok (fc_con okS nlSign .nil)) <| CAll.cons (cJ_ok (fc_con okS nlCmp .nil)) <| CAll.cons (cJ_ok (fc_con okS nlFloor .nil)) <| CAll.cons (cJ_ok (fc_con okS nlScaled .nil)) <| CAll.cons (cJ_ok (fc_con okS nlNorm .nil)) <| CAll.cons (cJ_ok (fc_con okS nlTrace .nil)) <| CAll.cons (cJ_ok (fc_con okS nlFormat .nil)) <| CAll.cons (cJ_ok (fc_con okS nlParse .nil)) <| CAll.cons (cJ_ok (fc_con okS nlField .nil)) <| ctrS_all
theorem okU : (mkCfg Tryz.prog ctrU bw).OK := cfg_ok ctrU_all

end Go.Proofs.YtloaeinogiplbaaGreatDoor
end

section
open Go Go.Ev Go.RowKit
namespace Go.Proofs.YtloaeinogiplbaaGreatDoor
open Go.Proofs
set_option maxRecDepth 100000
set_option maxHeartbeats 1000000
set_option linter.unusedVariables false
set_option linter.unusedSimpArgs false


theorem nlCross : conA (mkCfg Tryz.prog ctrU bw) 60 43 [pN, jV, jV] = some (AV.agg [aN, aN], []) := by kernel_rfl
theorem nlSum : conA (mkCfg Tryz.prog ctrU bw) 60 46 [pN, jV, jV] = some (AV.agg [aN, aN, aN, aN], []) := by kernel_rfl
theorem nlTimes : conA (mkCfg Tryz.prog ctrU bw) 60 48 [pN, jN, jV] = some (AV.agg [aN, aN, aN, aN], []) := by kernel_rfl
theorem nlApply : conA (mkCfg Tryz.prog ctrU bw) 60 42 [pN, jM, jV] = some (AV.agg [aN, aN, aN, aN], []) := by kernel_rfl
def ctrU2 : Ctr := (43, cJ [pN, jV, jV] zN) :: (46, cJ [pN, jV, jV] (.agg [.lit (.slice none 0 0), .lit (.slice none 0 0), .lit (.slice none 0 0), .lit (.slice none 0 0)])) :: (48, cJ [pN, jN, jV] (.agg [.lit (.slice none 0 0), .lit (.slice none 0 0), .lit (.slice none 0 0), .lit (.slice none 0 0)])) :: (42, cJ [pN, jM, jV] (.agg [.lit (.slice none 0 0), .lit (.slice none 0 0), .lit (.slice none 0 0), .lit (.slice none 0 0)])) :: ctrU
theorem ctrU2_all : ∀ p ∈ ctrU2, CtrOK Tryz.prog p.1 p.2 := CAll.cons (cJ_ok (fc_con okU nlCross .nil)) <| CAll.cons (cJ_ok (fc_con okU nlSum .nil)) <| CAll.cons (cJ_ok (fc_con okU nlTimes .nil)) <| CAll.cons (cJ_ok (fc_con okU nlApply .nil)) <| ctrU_all
theorem okU2 : (mkCfg Tryz.prog ctrU2 bw).OK := cfg_ok ctrU2_all

end Go.Proofs.YtloaeinogiplbaaGreatDoor
end

section
open Go Go.Ev Go.RowKit
namespace Go.Proofs.YtloaeinogiplbaaGreatDoor
open Go.Proofs
set_option maxRecDepth 100000
set_option maxHeartbeats 1000000
set_option linter.unusedVariables false
set_option linter.unusedSimpArgs false


theorem nlProduct : conA (mkCfg Tryz.prog ctrU2 bw) 60 40 [pN, jM, jM] = some (AV.agg [aN, aN, aN, aN, aN, aN, aN, aN], []) := by kernel_rfl
def ctrU3 : Ctr := (40, cJ [pN, jM, jM] (.agg [.lit (.slice none 0 0), .lit (.slice none 0 0), .lit (.slice none 0 0), .lit (.slice none 0 0), .lit (.slice none 0 0), .lit (.slice none 0 0), .lit (.slice none 0 0), .lit (.slice none 0 0)])) :: ctrU2
theorem ctrU3_all : ∀ p ∈ ctrU3, CtrOK Tryz.prog p.1 p.2 := CAll.cons (cJ_ok (fc_con okU2 nlProduct .nil)) <| ctrU2_all
theorem okU3 : (mkCfg Tryz.prog ctrU3 bw).OK := cfg_ok ctrU3_all

end Go.Proofs.YtloaeinogiplbaaGreatDoor
end

section
open Go Go.Ev Go.RowKit
namespace Go.Proofs.YtloaeinogiplbaaGreatDoor
open Go.Proofs
set_option maxRecDepth 100000
set_option maxHeartbeats 1000000
set_option linter.unusedVariables false
set_option linter.unusedSimpArgs false


theorem fn_0 (x y : NumT) (k : Int) (h1 : ¬ (shN (Prod.fst x, Prod.snd x) 2)) : FC Tryz.prog 14 [numK.val x, numK.val y, .lit (.int .i64 k)] (aT) := fc_fun okU3 (show funA (mkCfg Tryz.prog ctrU3 bw) 60 14 [numK.val x, numK.val y, .lit (.int .i64 k)] [(1, true)] [none] = some (aT, (ttC 2 ((True) :: ((!decide (shN (Prod.fst x, Prod.snd x) 2)) = true) :: []))) by kernel_rfl) (AllC.tt 2 (AllC.cons (trivial) (AllC.cons (congrArg Bool.not (decide_eq_false h1)) AllC.nil)))
theorem fn_1 (x y : NumT) (k : Int) (h1 : shN (Prod.fst x, Prod.snd x) 2) (h2 : ¬ (shN (Prod.fst y, Prod.snd y) 2)) : FC Tryz.prog 14 [numK.val x, numK.val y, .lit (.int .i64 k)] (aT) := fc_fun okU3 (show funA (mkCfg Tryz.prog ctrU3 bw) 60 14 [numK.val x, numK.val y, .lit (.int .i64 k)] [(1, false), (1, true)] [none] = some (aT, (ttC 2 ((True) :: ((!decide (shN (Prod.fst x, Prod.snd x) 2)) = false) :: ttC 3 ((True) :: ((!decide (shN (Prod.fst y, Prod.snd y) 2)) = true) :: [])))) by kernel_rfl) (AllC.tt 2 (AllC.cons (trivial) (AllC.cons (congrArg Bool.not (decide_eq_true h1)) (AllC.tt 3 (AllC.cons (trivial) (AllC.cons (congrArg Bool.not (decide_eq_false h2)) AllC.nil))))))
theorem fn_2 (x y : NumT) (k : Int) (h1 : shN (Prod.fst x, Prod.snd x) 2) (h2 : shN (Prod.fst y, Prod.snd y) 2) (h3 : pNl ([], []) ∧ pNl ([], [])) (h4 : pVe (([], []), [], []) ∧ pVe (([], []), [], [])) (h5 : pMa (([], []), ([], []), ([], []), [], []) ∧ pMa (([], []), ([], []), ([], []), [], [])) : FC Tryz.prog 14 [numK.val x, numK.val y, .lit (.int .i64 k)] (aT) := fc_fun okU3 (show funA (mkCfg Tryz.prog ctrU3 bw) 60 14 [numK.val x, numK.val y, .lit (.int .i64 k)] [(1, false), (1, false)] [none] = some (aT, (ttC 2 ((True) :: ((!decide (shN (Prod.fst x, Prod.snd x) 2)) = false) :: ttC 3 ((True) :: ((!decide (shN (Prod.fst y, Prod.snd y) 2)) = false) :: ttC 1 ((pNl ([], []) ∧ pNl ([], [])) :: (pNl ([], []) ∧ pNl ([], [])) :: (pNl ([], []) ∧ pNl ([], [])) :: (pNl ([], []) ∧ pNl ([], [])) :: (pNl ([], []) ∧ pNl ([], [])) :: (pNl ([], []) ∧ pNl ([], [])) :: (pNl ([], []) ∧ pNl ([], [])) :: (pVe (([], []), [], []) ∧ pVe (([], []), [], [])) :: (pVe (([], []), [], []) ∧ pVe (([], []), [], [])) :: (pVe (([], []), [], []) ∧ pVe (([], []), [], [])) :: (pMa (([], []), ([], []), ([], []), [], []) ∧ pMa (([], []), ([], []), ([], []), [], [])) :: []))))) by kernel_rfl) (AllC.tt 2 (AllC.cons (trivial) (AllC.cons (congrArg Bool.not (decide_eq_true h1)) (AllC.tt 3 (AllC.cons (trivial) (AllC.cons (congrArg Bool.not (decide_eq_true h2)) (AllC.tt 1 (AllC.cons (h3) (AllC.cons (h3) (AllC.cons (h3) (AllC.cons (h3) (AllC.cons (h3) (AllC.cons (h3) (AllC.cons (h3) (AllC.cons (h4) (AllC.cons (h4) (AllC.cons (h4) (AllC.cons (h5) AllC.nil))))))))))))))))))
theorem nil_fc (x y : NumT) (k : Int) : FC Tryz.prog 14 [numK.val x, numK.val y, .lit (.int .i64 k)] (.lit (.bool true)) := by
  by_cases h1 : shN x 2
  case neg => exact fn_0 x y k h1
  by_cases h2 : shN y 2
  case neg => exact fn_1 x y k h1 h2
  have a : pNl ([], []) := ⟨rfl, by decide⟩
  exact fn_2 x y k h1 h2 ⟨a, a⟩ ⟨⟨a, a⟩, a, a⟩ ⟨⟨a, a, a, a⟩, a, a, a, a⟩

end Go.Proofs.YtloaeinogiplbaaGreatDoor
end
