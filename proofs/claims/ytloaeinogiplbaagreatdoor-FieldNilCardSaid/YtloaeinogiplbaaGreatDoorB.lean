/- Part of a proof about a given program: see the last module of the claim. -/
import Derived.Test.YtloaeinogiplbaaGreatDoorA
import Derived.OrdersIn
section
namespace Go.Ev
open Go.RowKit (Below)
section
variable {P : Program} (w : World)

theorem run_append_nil2 (t ty e : TypeId) (i : TypeInfo) (z : Value) (ht : P.underlying t = some (.slice e)) (hi : P.info? e = some i) (hz : i.zero = some z)
    (a : Option Addr) (n c : Nat) (news : List Value) (hsrc : ∀ w' : World, w'.heap = w.heap → (Builtin.firstCells i.size n (.slice a n c)).run P w' = .ok news.toArray w')
    (h0 : 0 < n) (h63 : (n : Int) ≤ 9223372036854775807) (h48 : n * i.bytes ≤ 281474976710656) :
    (Builtin.append_ #[t, t] ty #[.slice none 0 0, .slice a n c]).run P w =
      .ok (.slice (some ⟨w.heap.size, 0, none⟩) n (grownCap w n 0 e)) (w.drew.alloc (.cells (news.toArray ++ Builtin.zeroCells z.cells (grownCap w n 0 e - n)) e)) := by
  have hn : n ≠ 0 := by omega
  have h63' : ¬ (9223372036854775807 < (n : Int)) := by omega
  have h48' : ¬ (281474976710656 < Builtin.nextslicecap n 0 * i.bytes) := by rw [nextslicecap_zero h0]; omega
  have hf := hsrc w.drew rfl
  simp [Builtin.append_, run_underlying ht, sizeOf, typeInfo, zeroValue, hi, hz, Builtin.lenOf, hn, h63', h48', Question.forced, run_firstCells_none, hf, newRow, grownCap]

theorem run_append_grow2 (t ty e : TypeId) (i : TypeInfo) (z : Value) (ht : P.underlying t = some (.slice e)) (hi : P.info? e = some i) (hz : i.zero = some z)
    (b : Addr) (sLen sCap : Nat) (olds : List Value) (hlo : olds.length = sLen * i.size) (holds : ∀ j v, olds[j]? = some v → w.cell? (b.add j) = some v)
    (a : Option Addr) (n c : Nat) (news : List Value) (hsrc : ∀ w' : World, w'.heap = w.heap → (Builtin.firstCells i.size n (.slice a n c)).run P w' = .ok news.toArray w')
    (hg : sCap < sLen + n) (h63 : ((sLen + n : Nat) : Int) ≤ 9223372036854775807) (hfit : Builtin.nextslicecap (sLen + n) sCap * i.bytes ≤ 281474976710656) :
    (Builtin.append_ #[t, t] ty #[.slice (some b) sLen sCap, .slice a n c]).run P w =
      .ok (.slice (some ⟨w.heap.size, 0, none⟩) (sLen + n) (grownCap w (sLen + n) sCap e))
        (w.drew.alloc (.cells (olds.toArray ++ news.toArray ++ Builtin.zeroCells z.cells (grownCap w (sLen + n) sCap e - (sLen + n))) e)) := by
  have hn : ¬ (sLen + n ≤ sCap) := by omega
  have h63' : ¬ (9223372036854775807 < ((sLen : Int) + (n : Int))) := by omega
  have h48' : ¬ (281474976710656 < Builtin.nextslicecap (sLen + n) sCap * i.bytes) := by omega
  have hf := hsrc w.drew rfl
  have hfo := run_firstCells_some (P := P) w.drew i.size sLen b sLen sCap olds hlo (by simpa using holds)
  simp [Builtin.append_, run_underlying ht, sizeOf, typeInfo, zeroValue, hi, hz, Builtin.lenOf, hn, h63', h48', Question.forced, hf, hfo, newRow, grownCap]
  congr 2
  apply Array.ext'
  simp [List.append_assoc]

theorem run_append_room2 (t ty e e' : TypeId) (i : TypeInfo) (ht : P.underlying t = some (.slice e)) (hi : P.info? e = some i)
    (g sLen sCap : Nat) (cur : Array Value) (hg : w.heap[g]? = some (.cells cur e' (0, 0)))
    (a : Option Addr) (m c : Nat) (news : List Value) (hsrc : ∀ w' : World, w'.heap = w.heap → (Builtin.firstCells i.size m (.slice a m c)).run P w' = .ok news.toArray w') (h1 : ∀ u ∈ news, u.oneCell' = true)
    (hroom : sLen + m ≤ sCap) (hfit : sLen * i.size + news.length ≤ cur.size) :
    (Builtin.append_ #[t, t] ty #[.slice (some ⟨g, 0, none⟩) sLen sCap, .slice a m c]).run P w =
      .ok (.slice (some ⟨g, 0, none⟩) (sLen + m) sCap) (w.setRow g (cur.toList.take (sLen * i.size) ++ news ++ cur.toList.drop (sLen * i.size + news.length)).toArray) := by
  have hf := hsrc w rfl
  have hst := run_storeCells_at P g (sLen * i.size) e' news 0 cur w hg (by simpa using hfit) h1
  simp only [Nat.add_zero] at hst
  simp [Builtin.append_, run_underlying ht, sizeOf, typeInfo, hi, Builtin.lenOf, hroom, hf, Addr.add_lit, hst]
end

section
variable {g : Cfg} {n0 : Nat → Prop} {st : St} {o : Oper}

theorem stp_drew {B : Nat} {M0 : Nat → Prop} {rows : List Row} {rho : List Nat} {wr : List Nat} {w : World} (hm : Mem B M0 rows rho w) : Stp B M0 rows rho wr w rows rho wr w.drew :=
  ⟨⟨Nat.le_refl _, fun _ _ h => ⟨rfl, h⟩, fun _ _ h => h, fun _ _ => rfl⟩, ⟨hm.hB, hm.m0, hm.len, hm.bnd, hm.row, hm.inj⟩, (Below.refl B w).drew, Nat.le_refl _, fun _ h _ => h, fun _ row _ _ h1 h2 h3 _ => ⟨rfl, h3, row, h1, h2⟩⟩

/-- What elements read as. -/
def ElRd (E : Env) (el : List AV ⊕ List Int) (news : List Value) : Prop :=
  match el with
  | .inl cs => CR E cs news.toArray
  | .inr l => news = l.map fun n => Value.int .i64 n

def ElLen (el : List AV ⊕ List Int) (m sz : Nat) : Prop :=
  match el with
  | .inl cs => cs.length = m * sz
  | .inr l => l.length = m ∧ sz = 1

theorem elems_run {B : Nat} {M0 : Nat → Prop} {rows : List Row} {rho : List Nat} {w : World} (hm : Mem B M0 rows rho w) {sz m : Nat} {x : AV} {el : List AV ⊕ List Int} {v : Value}
    (he : elemsN rows sz x = some (m, el)) (hv : Rd (envOf M0 rows rho w) x v) (hlen : ElLen el m sz) :
    ∃ a c news, v = .slice a m c ∧ news.length = m * sz ∧ ElRd (envOf M0 rows rho w) el news ∧
      ∀ k, k ≤ m → ∀ (P : Program) (w' : World), w'.heap = w.heap → (Builtin.firstCells sz k (.slice a m c)).run P w' = .ok (news.take (k * sz)).toArray w' := by
  have some_run : ∀ {b o c : Nat} {news : List Value}, news.length = m * sz → (∀ j u, news[j]? = some u → cellOf w.heap b (o + j) = some u) →
      ∀ k, k ≤ m → ∀ (P : Program) (w' : World), w'.heap = w.heap → (Builtin.firstCells sz k (.slice (some ⟨b, o, none⟩) m c)).run P w' = .ok (news.take (k * sz)).toArray w' := by
    intro b o c news hl hn k hk P w' hw
    have hmul : k * sz ≤ m * sz := Nat.mul_le_mul_right _ hk
    refine run_firstCells_some w' sz k ⟨b, o, none⟩ m c (news.take (k * sz)) (by simp; omega) (fun j u hu => ?_)
    have hj : j < k * sz := by have := (List.getElem?_eq_some_iff.1 hu).1; simp at this; omega
    rw [List.getElem?_take, if_pos hj] at hu
    rw [add_eq, cell?_eq, hw]; exact hn j u hu
  unfold elemsN at he
  split at he
  · rename_i r off n sz'
    split at he
    · rename_i cs lv hrow
      split at he
      · rename_i hc
        cases he
        obtain ⟨rfl, c2⟩ := hc
        cases hv with
        | @own _ _ _ _ b cap hr hs hcap hb =>
          obtain ⟨c, e, hbk, hlc, hcs⟩ := hm.row r _ b (row_of_getD hrow (by simp)) hr
          have hbk' : w.heap[b]? = some (.cells c e (0, 0)) := hbk
          have hnl : ((c.toList.drop off).take (m * sz)).length = m * sz := by simp; omega
          have hget : ∀ j, j < m * sz → ((c.toList.drop off).take (m * sz))[j]? = c[off + j]? := by
            intro j hj
            simp only [List.getElem?_take, hj, if_true, List.getElem?_drop, Array.getElem?_toList]
          refine ⟨_, cap, (c.toList.drop off).take (m * sz), rfl, hnl, ⟨by simp; omega, fun i hi => ?_⟩, some_run hnl fun j u hu => ?_⟩
          · have hi' : i < m * sz := by simp at hi; omega
            have h1 : ((cs.drop off).take (m * sz)).getD i .junk = cs.getD (off + i) .junk := by
              simp only [List.getD, List.getElem?_take, hi', if_true, List.getElem?_drop]
            have h2 : (((c.toList.drop off).take (m * sz)).toArray).getD i undef = c.getD (off + i) undef := by
              rw [getD_eq, getD_eq, List.getElem?_toArray, hget i hi']
            rw [h1, h2]; exact hcs (off + i) (by omega)
          · have hj : j < m * sz := by have := (List.getElem?_eq_some_iff.1 hu).1; omega
            rw [hget j hj] at hu
            simp only [cellOf, hbk']; exact hu
      · cases he
    · rename_i l lv hrow
      split at he
      · rename_i hc
        cases he
        obtain ⟨rfl, rfl, rfl⟩ := hc
        cases hv with
        | @own _ _ _ _ b cap hr hs hcap hb =>
          obtain ⟨c, e, hbk, hlc, hcs⟩ := hm.row r _ b (row_of_getD hrow (by simp)) hr
          have hbk' : w.heap[b]? = some (.cells c e (0, 0)) := hbk
          have hnl : ((l.take m).map fun n => Value.int .i64 n).length = m * 1 := by have h1 : (l.take m).length = m := hlen.1; simpa using h1
          refine ⟨_, cap, (l.take m).map fun n => Value.int .i64 n, rfl, hnl, rfl, some_run hnl fun j u hu => ?_⟩
          have hj : j < (l.take m).length := by have := (List.getElem?_eq_some_iff.1 hu).1; simpa using this
          have hjl : j < l.length := by simp at hj; omega
          have hjn : j < m := by simp at hj; omega
          simp only [cellOf, hbk', Nat.zero_add]
          rw [hcs j hjl, ← hu]
          simp [hjn, List.getD, hjl]
      · cases he
    · rename_i k l lv hrow
      split at he
      · rename_i hc
        cases he
        obtain ⟨rfl, rfl, hsz, hnle⟩ := hc
        have hcl := cellsL_length k l
        have hnm : m * sz' ≤ l.length * k.sz := by rw [hsz]; exact Nat.mul_le_mul_right _ hnle
        cases hv with
        | @own _ _ _ _ b cap hr hs hcap hb =>
          obtain ⟨c, e, hbk, hlc, hcs⟩ := hm.row r _ b (row_of_getD hrow (by simp)) hr
          have hbk' : w.heap[b]? = some (.cells c e (0, 0)) := hbk
          have hnl : ((c.toList.drop 0).take (m * sz')).length = m * sz' := by simp; omega
          have hget : ∀ j, j < m * sz' → ((c.toList.drop 0).take (m * sz'))[j]? = c[0 + j]? := by
            intro j hj
            simp only [List.getElem?_take, hj, if_true, List.getElem?_drop, Array.getElem?_toList]
          refine ⟨_, cap, (c.toList.drop 0).take (m * sz'), rfl, hnl, ⟨by simp; omega, fun i hi => ?_⟩, some_run hnl fun j u hu => ?_⟩
          · have hi' : i < m * sz' := by simp at hi; omega
            have h1 : ((cellsL k l).take (m * sz')).getD i .junk = (cellsL k l).getD (0 + i) .junk := by
              simp only [List.getD, List.getElem?_take, hi', if_true, Nat.zero_add]
            have h2 : (((c.toList.drop 0).take (m * sz')).toArray).getD i undef = c.getD (0 + i) undef := by
              rw [getD_eq, getD_eq, List.getElem?_toArray, hget i hi']
            rw [h1, h2]; exact hcs (0 + i) (by omega)
          · have hj : j < m * sz' := by have := (List.getElem?_eq_some_iff.1 hu).1; omega
            rw [hget j hj] at hu
            simp only [cellOf, hbk']; exact hu
      · cases he
    · cases he
  · rename_i cs n
    split at he
    · rename_i hc
      cases he
      cases hv with
      | @sl0 _ a cap =>
        have hnil : cs = [] := by apply List.eq_nil_of_length_eq_zero; omega
        subst hnil
        refine ⟨a, cap, [], rfl, by simp, ⟨rfl, fun i hi => by simp at hi⟩, fun k hk P w' hw => ?_⟩
        have hk0 : k = 0 := by omega
        subst hk0
        cases a with
        | none => simp [Builtin.firstCells]
        | some ad =>
          have := run_firstCells_some (P := P) w' sz 0 ad 0 cap [] (by simp) (fun j u hu => by simp at hu)
          simpa using this
      | @sl _ _ b base cap vals hs hM hcap hv hr =>
        have hnl : ((List.range cs.length).map vals).length = m * sz := by simpa using hc
        refine ⟨_, cap, (List.range cs.length).map vals, rfl, hnl, ⟨by simp, fun i hi => ?_⟩, some_run hnl fun j u hu => ?_⟩
        · have h2 : (((List.range cs.length).map vals).toArray).getD i undef = vals i := by simp [hi]
          rw [h2]; exact hr i hi
        · have hj : j < cs.length := by have := (List.getElem?_eq_some_iff.1 hu).1; simpa using this
          have := hv j hj
          simp [hj] at hu
          rw [← hu]; exact this
    · cases he
  · rename_i k l
    split at he
    · rename_i hsz
      cases he
      have hc : (cellsL k l).length = l.length * sz := by rw [hsz]; exact cellsL_length k l
      cases hv with
      | lst hv =>
        generalize hN : l.length = m at hv hc hlen some_run
        generalize hcs : cellsL k l = cs at hv hc hlen
        cases hv with
        | @sl0 _ a cap =>
          have hnil : cs = [] := by apply List.eq_nil_of_length_eq_zero; omega
          subst hnil
          refine ⟨a, cap, [], rfl, by simp, ⟨rfl, fun i hi => by simp at hi⟩, fun k hk P w' hw => ?_⟩
          have hk0 : k = 0 := by omega
          subst hk0
          cases a with
          | none => simp [Builtin.firstCells]
          | some ad =>
            have := run_firstCells_some (P := P) w' sz 0 ad 0 cap [] (by simp) (fun j u hu => by simp at hu)
            simpa using this
        | @sl _ _ b base cap vals hs hM hcap hv hr =>
          have hnl : ((List.range cs.length).map vals).length = m * sz := by simpa using hc
          refine ⟨_, cap, (List.range cs.length).map vals, rfl, hnl, ⟨by simp, fun i hi => ?_⟩, some_run hnl fun j u hu => ?_⟩
          · have h2 : (((List.range cs.length).map vals).toArray).getD i undef = vals i := by simp [hi]
            rw [h2]; exact hr i hi
          · have hj : j < cs.length := by have := (List.getElem?_eq_some_iff.1 hu).1; simpa using this
            have := hv j hj
            simp [hj] at hu
            rw [← hu]; exact this
    · cases he
  · split at he
    · rename_i l hl
      split at he
      · rename_i hsz
        cases he
        subst hsz
        obtain ⟨a, cap, rfl, hcap, hat⟩ := ints_inv hl hv
        have hnl : (l.map fun n => Value.int .i64 n).length = l.length * 1 := by simp
        refine ⟨a, cap, l.map fun n => Value.int .i64 n, rfl, hnl, rfl, ?_⟩
        rcases hat with rfl | ⟨b, base, rfl, hM, hcell⟩
        · intro k hk P w' hw
          have hk0 : k = 0 := by simpa using hk
          subst hk0
          cases a with
          | none => simp [Builtin.firstCells]
          | some ad =>
            have := run_firstCells_some (P := P) w' 1 0 ad 0 cap [] (by simp) (fun j u hu => by simp at hu)
            simpa using this
        · refine some_run hnl fun j u hu => ?_
          have hj : j < l.length := by have := (List.getElem?_eq_some_iff.1 hu).1; simpa using this
          have := hcell j hj
          simp [hj] at hu
          rw [← hu]
          have e1 : l.getD j 0 = l[j] := by simp [List.getD, hj]
          rw [e1] at this; exact this
      · cases he
    · cases he
end
end Go.Ev
end

section
namespace Go.Ev
open Go.RowKit (Below)
section
variable {g : Cfg} {n0 : Nat → Prop} {st : St} {o : Oper}

theorem set_rows {rows : List Row} {r s : Nat} {row q : Row} (hrl : r < rows.length) (h : (rows.set r row)[s]? = some q) : (s = r ∧ q = row) ∨ (s ≠ r ∧ rows[s]? = some q) := by
  by_cases hs : r = s
  · subst hs
    rw [List.getElem?_set_self hrl] at h
    exact .inl ⟨rfl, (Option.some.inj h).symm⟩
  · rw [List.getElem?_set_ne hs] at h
    exact .inr ⟨fun hh => hs hh.symm, h⟩

/-- A row that nobody will use. -/
theorem stp_kill {B : Nat} {M0 : Nat → Prop} {rows : List Row} {rho : List Nat} {wr : List Nat} {w : World} (hm : Mem B M0 rows rho w) {r : Nat} (hrl : r < rows.length) :
    Stp B M0 rows rho wr w (rows.set r .dead) rho (r :: wr) w := by
  have hM : ∀ k, ¬ Mset M0 rows rho k → ¬ Mset M0 (rows.set r .dead) rho k := by
    rintro k hk (h0 | ⟨s, q, h1, h2, h3⟩)
    · exact hk (.inl h0)
    · rcases set_rows hrl h1 with ⟨rfl, rfl⟩ | ⟨_, k1⟩
      · cases h2
      · exact hk (.inr ⟨s, q, k1, h2, h3⟩)
  have hext : Ext (envOf M0 rows rho w) (envOf M0 (rows.set r .dead) rho w) := ⟨Nat.le_refl _, fun k _ hk => ⟨rfl, hM k hk⟩, fun _ _ h => h, fun _ _ => rfl⟩
  refine ⟨hext, ⟨hm.hB, hm.m0, by simp [hm.len], hm.bnd, fun s q k h1 h2 => ?_, fun s s' q q' k h1 h2 a1 a2 b1 b2 => ?_⟩, Below.refl _ _, Nat.le_refl _, fun s hs _ => List.mem_cons_of_mem _ hs, fun s q k _ h1 h2 h3 h4 => ⟨rfl, h3, q, by rw [List.getElem?_set_ne (show r ≠ s from fun h => h4 (by rw [← h]; exact List.mem_cons_self))]; exact h1, h2⟩⟩
  · rcases set_rows hrl h1 with ⟨rfl, rfl⟩ | ⟨_, k1⟩
    · trivial
    · exact (hm.row s q k k1 h2).ext hext rfl
  · rcases set_rows hrl h1 with ⟨rfl, rfl⟩ | ⟨_, k1⟩
    · cases a1
    · rcases set_rows hrl h2 with ⟨rfl, rfl⟩ | ⟨_, k2⟩
      · cases a2
      · exact hm.inj s s' q q' k k1 k2 a1 a2 b1 b2

/-- A live row goes on under a new number. -/
theorem stp_move {B : Nat} {M0 : Nat → Prop} {rows : List Row} {rho : List Nat} {wr : List Nat} {w : World} (hm : Mem B M0 rows rho w) {r b : Nat} {row : Row} (hrow : rows[r]? = some row) (hlive : row.live = true)
    (hr : rho[r]? = some b) (hwr : r ∈ wr) : Stp B M0 rows rho wr w (rows.set r .dead ++ [row]) (rho ++ [b]) (rows.length :: wr) w := by
  have hl := hm.len
  have hrl : r < rows.length := (List.getElem?_eq_some_iff.1 hrow).1
  have hrows : ∀ (s : Nat) (q : Row) (k : Nat), (rows.set r .dead ++ [row])[s]? = some q → (rho ++ [b])[s]? = some k → (s < rows.length ∧ (rows.set r .dead)[s]? = some q ∧ rho[s]? = some k) ∨ (s = rows.length ∧ q = row ∧ k = b) := by
    intro s q k h1 h2
    by_cases hs : s < rows.length
    · rw [List.getElem?_append_left (by simpa using hs)] at h1
      rw [List.getElem?_append_left (by omega)] at h2
      exact .inl ⟨hs, h1, h2⟩
    · rw [List.getElem?_append_right (by simpa using Nat.le_of_not_lt hs)] at h1
      rw [List.getElem?_append_right (by omega)] at h2
      have h3 : s - rows.length = 0 := by
        have := (List.getElem?_eq_some_iff.1 h1).1
        simp at this; omega
      simp only [List.length_set] at h1
      rw [h3] at h1
      rw [hl, h3] at h2
      exact .inr ⟨by omega, by simpa using h1.symm, by simpa using h2.symm⟩
  have hM : ∀ k, ¬ Mset M0 rows rho k → ¬ Mset M0 (rows.set r .dead ++ [row]) (rho ++ [b]) k := by
    rintro k hk (h0 | ⟨s, q, h1, h2, h3⟩)
    · exact hk (.inl h0)
    · rcases hrows s q k h1 h3 with ⟨_, k1, k2⟩ | ⟨_, rfl, rfl⟩
      · rcases set_rows hrl k1 with ⟨rfl, rfl⟩ | ⟨_, k3⟩
        · cases h2
        · exact hk (.inr ⟨s, q, k3, h2, k2⟩)
      · exact hk (.inr ⟨r, q, hrow, hlive, hr⟩)
  have hext : Ext (envOf M0 rows rho w) (envOf M0 (rows.set r .dead ++ [row]) (rho ++ [b]) w) :=
    ⟨Nat.le_refl _, fun k _ hk => ⟨rfl, hM k hk⟩, fun s k hs => (List.getElem?_append_left (by have := (List.getElem?_eq_some_iff.1 hs).1; exact this)).trans hs, fun _ _ => rfl⟩
  refine ⟨hext, ⟨hm.hB, hm.m0, by simp [hl], fun s k hs => ?_, fun s q k h1 h2 => ?_, fun s s' q q' k h1 h2 a1 a2 b1 b2 => ?_⟩, Below.refl _ _, by simp, fun s hs _ => List.mem_cons_of_mem _ hs, fun s q k hs h1 h2 h3 h4 => ⟨rfl, ?_, q, ?_, h2⟩⟩
  · by_cases hlt : s < rho.length
    · rw [List.getElem?_append_left hlt] at hs
      exact hm.bnd s k hs
    · rw [List.getElem?_append_right (by omega)] at hs
      have h3 : s - rho.length = 0 := by
        have := (List.getElem?_eq_some_iff.1 hs).1
        simp at this; omega
      rw [h3] at hs
      have : k = b := by simpa using hs.symm
      subst this
      exact hm.bnd r k hr
  · rcases hrows s q k h1 h2 with ⟨_, k1, k2⟩ | ⟨_, rfl, rfl⟩
    · rcases set_rows hrl k1 with ⟨rfl, rfl⟩ | ⟨_, k3⟩
      · trivial
      · exact (hm.row s q k k3 k2).ext hext rfl
    · exact (hm.row r q k hrow hr).ext hext rfl
  · have key : ∀ (s : Nat) (q : Row), (rows.set r .dead ++ [row])[s]? = some q → (rho ++ [b])[s]? = some k → q.alive = true → ∃ (s0 : Nat) (q0 : Row), rows[s0]? = some q0 ∧ q0.alive = true ∧ rho[s0]? = some k ∧ ((s0 = s ∧ s ≠ r ∧ s < rows.length) ∨ (s0 = r ∧ s = rows.length)) := by
      intro s q h hk ha
      rcases hrows s q k h hk with ⟨hlt, k1, k2⟩ | ⟨hs, rfl, rfl⟩
      · rcases set_rows hrl k1 with ⟨rfl, rfl⟩ | ⟨hne, k3⟩
        · cases ha
        · exact ⟨s, q, k3, ha, k2, .inl ⟨rfl, hne, hlt⟩⟩
      · exact ⟨r, q, hrow, ha, hr, .inr ⟨rfl, hs⟩⟩
    obtain ⟨s0, q0, g1, g2, g3, g4⟩ := key s q h1 b1 a1
    obtain ⟨s1, q1, g5, g6, g7, g8⟩ := key s' q' h2 b2 a2
    have := hm.inj s0 s1 q0 q1 k g1 g5 g2 g6 g3 g7
    omega
  · rw [List.getElem?_append_left hs]; exact h3
  · have hne : r ≠ s := fun h => h4 (h ▸ List.mem_cons_of_mem _ hwr)
    rw [List.getElem?_append_left (by simp; omega), List.getElem?_set_ne hne]; exact h1

theorem Stp.log {B M0 rows rho wr w rows' rho' wr' w'} (h : Stp B M0 rows rho wr w rows' rho' wr' w') {wr2 : List Nat} (hs : ∀ s ∈ wr', s ∈ wr2) : Stp B M0 rows rho wr w rows' rho' wr2 w' :=
  ⟨h.ext, h.mem, h.below, h.frm.1, fun s h1 h2 => hs s (h.frm.2.1 s h1 h2), fun r row b h1 h2 h3 h4 h5 => h.frm.2.2 r row b h1 h2 h3 h4 (fun h6 => h5 (hs r h6))⟩

def rowEl : List AV ⊕ List Int → Row
  | .inl cs => .flat cs true
  | .inr l => .ints l true

theorem elemsN_len {rows : List Row} {sz m : Nat} {x : AV} {el : List AV ⊕ List Int} (h : elemsN rows sz x = some (m, el)) :
    (∀ cs, el = .inl cs → cs.length = m * sz) ∧ (∀ l, el = .inr l → sz = 1) := by
  unfold elemsN at h
  split at h
  · split at h
    · split at h
      · rename_i hc
        cases h
        refine ⟨fun cs hcs => ?_, fun l hl => by cases hl⟩
        cases hcs
        obtain ⟨rfl, c2⟩ := hc
        simp; omega
      · cases h
    · split at h
      · rename_i hc
        cases h
        exact ⟨fun cs hcs => (by cases hcs), fun _ _ => hc.2.2⟩
      · cases h
    · rename_i k l _ _
      split at h
      · rename_i hc
        cases h
        refine ⟨fun cs hcs => ?_, fun l hl => by cases hl⟩
        cases hcs
        obtain ⟨_, _, hsz, hnl⟩ := hc
        have hcl := cellsL_length k l
        have : m * sz ≤ l.length * k.sz := by rw [hsz]; exact Nat.mul_le_mul_right _ hnl
        simp; omega
      · cases h
    · cases h
  · split at h
    · rename_i hc
      cases h
      exact ⟨fun cs hcs => (by cases hcs; exact hc), fun l hl => (by cases hl)⟩
    · cases h
  · rename_i k l
    split at h
    · rename_i hc
      cases h
      exact ⟨fun cs hcs => (by cases hcs; rw [hc]; exact cellsL_length k l), fun l hl => (by cases hl)⟩
    · cases h
  · split at h
    · split at h
      · rename_i hc
        cases h
        exact ⟨fun cs hcs => (by cases hcs), fun _ _ => hc⟩
      · cases h
    · cases h

theorem join_flat {E : Env} {cs es : List AV} {b : Bool} {c : Array Value} {k : Nat} {news : List Value} {arr : Array Value} (hf : RowFits E (.flat cs b) c) (hk : k ≤ cs.length) (he : CR E es news.toArray)
    (h1 : ∀ i, i < k → arr[i]? = c[i]?) (h2 : ∀ i, i < news.length → arr[k + i]? = news[i]?) (h3 : k + news.length ≤ arr.size) : RowFits E (.flat (cs.take k ++ es) true) arr := by
  have hel : es.length = news.length := by have := he.1; simpa using this
  have hkl : (cs.take k).length = k := by simp; omega
  refine ⟨by rw [List.length_append, hkl, hel]; exact h3, fun i hi => ?_⟩
  rw [List.length_append, hkl] at hi
  rw [getD_eq]
  by_cases hik : i < k
  · have e1 : (cs.take k ++ es).getD i .junk = cs.getD i .junk := by
      simp only [List.getD]
      rw [List.getElem?_append_left (by omega), List.getElem?_take, if_pos hik]
    rw [e1, h1 i hik, ← getD_eq]
    exact hf.2 i (by omega)
  · obtain ⟨j, rfl⟩ : ∃ j, i = k + j := ⟨i - k, by omega⟩
    have e1 : (cs.take k ++ es).getD (k + j) .junk = es.getD j .junk := by
      simp only [List.getD]
      rw [List.getElem?_append_right (by omega), hkl, Nat.add_sub_cancel_left]
    rw [e1, h2 j (by omega)]
    have := he.2 j (by omega)
    rw [getD_eq] at this
    simpa using this

theorem join_ints {E : Env} {l q : List Int} {b : Bool} {c : Array Value} {k : Nat} {arr : Array Value} (hf : RowFits E (.ints l b) c) (hk : k ≤ l.length)
    (h1 : ∀ i, i < k → arr[i]? = c[i]?) (h2 : ∀ i, i < q.length → arr[k + i]? = some (.int .i64 (q.getD i 0))) (h3 : k + q.length ≤ arr.size) : RowFits E (.ints (l.take k ++ q) true) arr := by
  have hkl : (l.take k).length = k := by simp; omega
  refine ⟨by rw [List.length_append, hkl]; exact h3, fun i hi => ?_⟩
  rw [List.length_append, hkl] at hi
  by_cases hik : i < k
  · have e1 : (l.take k ++ q).getD i 0 = l.getD i 0 := by
      simp only [List.getD]
      rw [List.getElem?_append_left (by omega), List.getElem?_take, if_pos hik]
    rw [e1, h1 i hik]
    exact hf.2 i (by omega)
  · obtain ⟨j, rfl⟩ : ∃ j, i = k + j := ⟨i - k, by omega⟩
    have e1 : (l.take k ++ q).getD (k + j) 0 = q.getD j 0 := by
      simp only [List.getD]
      rw [List.getElem?_append_right (by omega), hkl, Nat.add_sub_cancel_left]
    rw [e1, h2 j (by omega)]

theorem fits_new {E : Env} {el : List AV ⊕ List Int} {news : List Value} {m sz : Nat} (h : ElRd E el news) (hl : ElLen el m sz) (rest : Array Value) :
    RowFits E (rowEl el) (news.toArray ++ rest) := by
  cases el with
  | inl cs =>
    have h' : CR E cs news.toArray := h
    refine ⟨by have := h'.1; simp at this ⊢; omega, fun i hi => ?_⟩
    have h1 := h'.2 i hi
    have hi' : i < news.length := by have := h'.1; simp at this; omega
    rw [getD_eq] at h1 ⊢
    rw [Array.getElem?_append_left (by simpa using hi')]
    exact h1
  | inr l =>
    have h' : news = l.map fun n => Value.int .i64 n := h
    subst h'
    refine ⟨by simp, fun i hi => ?_⟩
    rw [Array.getElem?_append_left (by simpa using hi)]
    simp [hi, List.getD]

theorem Stp.kill_last {B M0 rows rho wr w rows' rho' wr' w'} (h : Stp B M0 rows rho wr w rows' rho' wr' w') {r : Nat} (hr : r < rows'.length) : Stp B M0 rows rho wr w (rows'.set r .dead) rho' (r :: wr') w' :=
  h.trans (stp_kill h.mem hr)

theorem getD_dead {rows : List Row} {r : Nat} {row : Row} (h : rows.getD r .dead = row) (hne : row ≠ .dead) : r < rows.length := (List.getElem?_eq_some_iff.1 (row_of_getD h hne)).1

theorem append_nil_sem {P : Program} {B : Nat} {M0 : Nat → Prop} {rows : List Row} {rho wr : List Nat} {w : World} (hm : Mem B M0 rows rho w) {t tt e : TypeId} {i2 : TypeInfo} {z2 : Value}
    (hd : P.underlying t = some (.slice e)) (hi2 : P.info? e = some i2) (hz2 : i2.zero = some z2) (hzs : z2.cells.size = i2.size) {x : AV} {vy : Value} {m : Nat} {el : List AV ⊕ List Int}
    (hp : elemsN rows i2.size x = some (m, el)) (hy : Rd (envOf M0 rows rho w) x vy) (c1 : 0 < m) (c2 : m * i2.bytes ≤ 140737488355328) (c3 : m ≤ 4611686018427387904) (hlen : ElLen el m i2.size) :
    ∃ w' rho' v, (Builtin.append_ #[t, t] tt #[.slice none 0 0, vy]).run P w = .ok v w' ∧
      Stp B M0 rows rho wr w (rows ++ [rowEl el]) rho' wr w' ∧ Rd (envOf M0 (rows ++ [rowEl el]) rho' w') (.own rows.length 0 m i2.size) v := by
  obtain ⟨ad, cp, news, hv, hnl, hel, hsrc⟩ := elems_run hm hp hy hlen
  have hnl' : news.length = m * i2.size := hnl
  have hrun := run_append_nil2 (P := P) w t tt e i2 z2 hd hi2 hz2 ad m cp news (fun w' hw => by have := hsrc m (Nat.le_refl _) P w' hw; rwa [List.take_of_length_le (by omega)] at this) c1 (by omega) (by omega)
  have hfit := fits_new hel hlen (Builtin.zeroCells z2.cells (grownCap w m 0 e - m))
  have hs1 := (stp_drew (wr := wr) hm)
  have hs2 := hs1.trans (stp_new (e := e) hs1.mem (hfit.ext hs1.ext))
  refine ⟨_, _, _, by rw [hv]; exact hrun, hs2, .own (rho_new hm.len) (by show w.heap.size < (w.drew.alloc _).heap.size; simp) ?_ ?_⟩
  · have := grownCap_ge w m 0 e; omega
  · show 0 + grownCap w m 0 e * i2.size ≤ bszOf (w.drew.alloc _).heap w.drew.heap.size
    rw [bszOf_new]
    have hge := grownCap_ge w m 0 e
    simp only [Array.size_append, List.size_toArray, size_zeroCells, hzs, hnl']
    rw [← Nat.add_mul]
    have : m + (grownCap w m 0 e - m) = grownCap w m 0 e := by omega
    rw [this]; omega
theorem append_own_sem {P : Program} {B : Nat} {M0 : Nat → Prop} {rows : List Row} {rho wr : List Nat} {w : World} (hm : Mem B M0 rows rho w) {t tt e : TypeId} {i2 : TypeInfo} {z2 : Value}
    (hd : P.underlying t = some (.slice e)) (hi2 : P.info? e = some i2) (hz2 : i2.zero = some z2) (hzs : z2.cells.size = i2.size) {x : AV} {vx vy : Value} {m : Nat} {el : List AV ⊕ List Int}
    (hp : elemsN rows i2.size x = some (m, el)) (hy : Rd (envOf M0 rows rho w) x vy) {r n sz : Nat} (hxv : Rd (envOf M0 rows rho w) (.own r 0 n sz) vx)
    (c1 : (n + m) * i2.bytes ≤ 140737488355328) (c2 : n + m ≤ 4611686018427387904) {row row' : Row} (hrow : rows[r]? = some row) (hlive : row.live = true) (hlive' : row'.live = true) (hsz' : sz = i2.size) (hlen : ElLen el m i2.size)
    (hfits : ∀ E (c : Array Value) (news : List Value), RowFits E row c → ElRd E el news → n * i2.size ≤ c.size ∧ ∀ arr : Array Value, (∀ i, i < n * i2.size → arr[i]? = c[i]?) → (∀ i, i < news.length → arr[n * i2.size + i]? = news[i]?) → n * i2.size + news.length ≤ arr.size → RowFits E row' arr)
    (hone : ∀ E (news : List Value), ElRd E el news → ∀ u ∈ news, u.oneCell' = true) :
    ∃ w' rho' v, (Builtin.append_ #[t, t] tt #[vx, vy]).run P w = .ok v w' ∧
      Stp B M0 rows rho wr w (rows.set r .dead ++ [row']) rho' (rows.length :: r :: wr) w' ∧ Rd (envOf M0 (rows.set r .dead ++ [row']) rho' w') (.own rows.length 0 (n + m) sz) v := by
  have hrl : r < rows.length := (List.getElem?_eq_some_iff.1 hrow).1
  obtain ⟨ad, cp, news, hv, hnl, hel, hsrc⟩ := elems_run hm hp hy hlen
  have hnl' : news.length = m * i2.size := hnl
  cases hxv with
  | @own _ _ _ _ b cap hr hsb hcap hbz =>
    have hrho : rho[r]? = some b := hr
    have hat := hm.row r row b hrow hrho
    obtain ⟨c, e', hbk, hcfit⟩ : ∃ c e', w.heap[b]? = some (.cells c e' (0, 0)) ∧ RowFits (envOf M0 rows rho w) row c := by
      cases row with
      | dead => cases hlive
      | flat cs lv => obtain ⟨c, e', k1, k2, k3⟩ := hat; exact ⟨c, e', k1, k2, k3⟩
      | ints l lv => obtain ⟨c, e', k1, k2, k3⟩ := hat; exact ⟨c, e', k1, k2, k3⟩
      | lst k l lv => obtain ⟨c, e', k1, k2, k3⟩ := hat; exact ⟨c, e', k1, k2, k3⟩
    have hbz' : cap * i2.size ≤ c.size := by
      have : bszOf w.heap b = c.size := by simp [bszOf, hbk]
      have hb2 : 0 + cap * sz ≤ bszOf w.heap b := hbz
      rw [this, hsz', Nat.zero_add] at hb2; exact hb2
    obtain ⟨hnc, hjoin⟩ := hfits _ c news hcfit hel
    by_cases hroom : n + m ≤ cap
    · have hmul : (n + m) * i2.size ≤ cap * i2.size := Nat.mul_le_mul_right _ hroom
      rw [Nat.add_mul] at hmul
      obtain ⟨s1, s2⟩ := spliced c news (n * i2.size) (by omega)
      have hfit : RowFits (envOf M0 rows rho w) row' (c.toList.take (n * i2.size) ++ news ++ c.toList.drop (n * i2.size + news.length)).toArray := by
        refine hjoin _ (fun i hi => by rw [s2, if_neg (by omega)]) (fun i hi => by rw [s2, if_pos ⟨by omega, by omega⟩, Nat.add_sub_cancel_left]) (by rw [s1]; omega)
      have hs1 := stp_write (wr := wr) hm hrow hlive hrho hbk s1 hlive' hfit
      have hs2 := hs1.trans (stp_move hs1.mem (r := r) (b := b) (row := row') (by simp [hrl]) hlive' hrho List.mem_cons_self)
      have hrun := run_append_room2 (P := P) w t tt e e' i2 hd hi2 b n cap c hbk ad m cp news (fun w' hw => by have := hsrc m (Nat.le_refl _) P w' hw; rwa [List.take_of_length_le (by omega)] at this) (hone _ news hel) hroom (by omega)
      refine ⟨_, _, _, by rw [hv]; exact hrun, by simpa using hs2, .own (b := b) (cap := cap) ?_ ?_ hroom ?_⟩
      · have := hm.len; show (rho ++ [b])[rows.length]? = some b; rw [← this]; simp
      · show b < (w.setRow b _).heap.size; simp; exact (hm.bnd r b hrho).2
      · have hnew := setRow_heap w b c (c.toList.take (n * i2.size) ++ news ++ c.toList.drop (n * i2.size + news.length)).toArray e' _ hbk
        show 0 + cap * sz ≤ bszOf (w.setRow b _).heap b
        unfold bszOf; rw [hnew]; simp only [s1, hsz']; omega
    · have hlo : (c.toList.take (n * i2.size)).length = n * i2.size := by simp; omega
      have hrun := run_append_grow2 (P := P) w t tt e i2 z2 hd hi2 hz2 ⟨b, 0, none⟩ n cap (c.toList.take (n * i2.size)) hlo (fun j u hu => by
          have hj : j < n * i2.size := by have := (List.getElem?_eq_some_iff.1 hu).1; omega
          rw [List.getElem?_take, if_pos hj, Array.getElem?_toList] at hu
          rw [add_eq, cell?_eq, Nat.zero_add]; simp only [cellOf, hbk]; exact hu) ad m cp news (fun w' hw => by have := hsrc m (Nat.le_refl _) P w' hw; rwa [List.take_of_length_le (by omega)] at this) (by omega) (by omega) (growslice_fits (by omega) c1)
      have hge := grownCap_ge w (n + m) cap e
      have harr : RowFits (envOf M0 rows rho w) row' ((c.toList.take (n * i2.size)).toArray ++ news.toArray ++ Builtin.zeroCells z2.cells (grownCap w (n + m) cap e - (n + m))) := by
        refine hjoin _ (fun i hi => ?_) (fun i hi => ?_) (by simp; omega)
        · rw [Array.append_assoc, Array.getElem?_append_left (by simp; omega)]
          simp only [List.getElem?_toArray, List.getElem?_take, hi, if_true, Array.getElem?_toList]
        · rw [Array.append_assoc, Array.getElem?_append_right (by simp; omega), Array.getElem?_append_left (by simp; omega)]
          simp only [List.getElem?_toArray, List.size_toArray, hlo, Nat.add_sub_cancel_left]
      have hs1 := (stp_drew (wr := wr) hm)
      have hs2 := hs1.trans (stp_new (e := e) hs1.mem (harr.ext hs1.ext))
      have hs3 := (hs2.kill_last (r := r) (by simp; omega)).log (wr2 := rows.length :: r :: wr) (fun s hs => List.mem_cons_of_mem _ hs)
      have hset : (rows ++ [row']).set r .dead = rows.set r .dead ++ [row'] := by rw [List.set_append_left _ _ hrl]
      rw [hset] at hs3
      refine ⟨_, _, _, by rw [hv]; exact hrun, hs3, .own (rho_new hm.len) (by show w.heap.size < (w.drew.alloc _).heap.size; simp) hge ?_⟩
      show 0 + grownCap w (n + m) cap e * sz ≤ bszOf (w.drew.alloc _).heap w.drew.heap.size
      rw [bszOf_new]
      simp only [Array.size_append, List.size_toArray, size_zeroCells, hzs, hnl', hlo, hsz']
      rw [← Nat.add_mul, ← Nat.add_mul]
      have : n + m + (grownCap w (n + m) cap e - (n + m)) = grownCap w (n + m) cap e := by omega
      rw [this]; omega

theorem append_run (hg : g.OK) {c : Call} {x y : Operand} {t t1 : TypeId} (ho : o.op = .call c) (hb : c.callee = .builtin .append) (hx : c.args.toList = [x, y]) (ht : c.argTypes.toList = [t, t1]) :
    Spec (appendA g st.rows st.wr t t1 (evalO st.tm x) (evalO st.tm y)) fun r => RunOK g.P st o r := by
  refine runOK_spec fun B M0 rho a w hm hf => ?_
  have h1 : c.args = #[x, y] := by rw [← Array.toArray_toList (xs := c.args), hx]
  have h2 : c.argTypes = #[t, t1] := by rw [← Array.toArray_toList (xs := c.argTypes), ht]
  have exec : ∀ {v : Value} {w' : World}, (Builtin.append_ #[t, t1] o.type #[a.eval x, a.eval y]).run g.P w = .ok v w' → (execOp a.eval o).run g.P w = .ok (.value v) w' := by
    intro v w' h
    rw [builtin_exec ho hb, h1, h2]
    simp only [builtin, Sem.run_bind, List.map_toArray, List.map_cons, List.map_nil, h, Result.andThen_ok, Sem.run_pure]
  unfold appendA
  refine Spec.bind (ty_spec hg fun i d z hi hd hz => ?_)
  dsimp only
  split
  · exact Spec.fail
  · rename_i htt
    have htt' : t = t1 := by simpa using htt
    subst htt'
    split
    · rename_i e htk
      have hd' := tk_slice htk; subst hd'
      refine Spec.bind (ty_spec hg fun i2 d2 z2 hi2 hd2 hz2 => ?_)
      refine Spec.bind (Spec.ofOpt fun p hp => ?_)
      obtain ⟨m, el⟩ := p
      dsimp only
      split
      · exact Spec.fail
      · rename_i hsz
        have hpos : 0 < i2.size := by omega
        split
        · -- onto nil
          rename_i hs
          have hsv : a.eval x = .slice none 0 0 := by have := hf.eval x; rw [hs] at this; exact this.lit_inv
          refine Spec.bind (Spec.chk fun c1 => Spec.bind (Spec.chk fun c2 => Spec.bind (Spec.chk fun c3 => ?_)))
          simp only [decide_eq_true_eq] at c1 c2 c3
          have fin : ElLen el m i2.size → ∃ nx w' rho' v, (execOp a.eval o).run g.P w = .ok nx w' ∧ (nx = .value v ∨ nx = .skip ∧ v = undef) ∧
              Stp B M0 st.rows rho st.wr w (st.rows ++ [rowEl el]) rho' st.wr w' ∧
              Rd (envOf M0 (st.rows ++ [rowEl el]) rho' w') (.own st.rows.length 0 m i2.size) v := by
            intro hlen
            have hzs : z2.cells.size = i2.size := by
              cases Nat.decEq z2.cells.toList.length i2.size with
              | isTrue h => simpa using h
              | isFalse h => exact absurd (.inr h) hsz
            obtain ⟨w', rho', v, k1, k2, k3⟩ := append_nil_sem (wr := st.wr) (tt := o.type) hm hd hi2 hz2 hzs hp (hf.eval y) c1 c2 c3 hlen
            exact ⟨_, _, _, _, exec (by rw [hsv]; exact k1), .inl rfl, k2, k3⟩
          split
          · rename_i cs
            exact Spec.pure' (fin ((elemsN_len hp).1 cs rfl))
          · rename_i l
            refine Spec.bind (Spec.chk fun c4 => ?_)
            simp only [decide_eq_true_eq] at c4
            have hs1 : i2.size = 1 := (elemsN_len hp).2 l rfl
            have := fin ⟨c4, hs1⟩
            rw [hs1] at this
            exact Spec.pure' this
        · -- onto a row of one's own
          rename_i r n sz hs
          have hxv := hf.eval x
          rw [hs] at hxv
          refine Spec.bind (Spec.chk fun c1 => Spec.bind (Spec.chk fun c2 => ?_))
          simp only [decide_eq_true_eq] at c1 c2
          have hzs : z2.cells.size = i2.size := by
            cases Nat.decEq z2.cells.toList.length i2.size with
            | isTrue h => simpa using h
            | isFalse h => exact absurd (.inr h) hsz
          -- both ways: there is room, there is none
          have fin : ∀ (row row' : Row), st.rows[r]? = some row → row.live = true → row'.live = true → sz = i2.size → ElLen el m i2.size →
              (∀ E (c : Array Value) (news : List Value), RowFits E row c → ElRd E el news → n * i2.size ≤ c.size ∧ ∀ arr : Array Value, (∀ i, i < n * i2.size → arr[i]? = c[i]?) → (∀ i, i < news.length → arr[n * i2.size + i]? = news[i]?) → n * i2.size + news.length ≤ arr.size → RowFits E row' arr) →
              (∀ E (news : List Value), ElRd E el news → ∀ u ∈ news, u.oneCell' = true) →
              ∃ nx w' rho' v, (execOp a.eval o).run g.P w = .ok nx w' ∧ (nx = .value v ∨ nx = .skip ∧ v = undef) ∧
              Stp B M0 st.rows rho st.wr w (st.rows.set r .dead ++ [row']) rho' (st.rows.length :: r :: st.wr) w' ∧
              Rd (envOf M0 (st.rows.set r .dead ++ [row']) rho' w') (.own st.rows.length 0 (n + m) sz) v := by
            intro row row' hrow hlive hlive' hsz' hlen hfits hone
            obtain ⟨w', rho', v, k1, k2, k3⟩ := append_own_sem (wr := st.wr) (tt := o.type) hm hd hi2 hz2 hzs hp (hf.eval y) hxv c1 c2 hrow hlive hlive' hsz' hlen hfits hone
            exact ⟨_, _, _, _, exec k1, .inl rfl, k2, k3⟩
          split
          · rename_i cs es hrow
            split
            · rename_i hc
              obtain ⟨c3, c4, c5, c6⟩ := hc
              have c3' : sz = i2.size := c3
              refine Spec.pure' (fin (.flat cs true) (.flat (cs.take (n * sz) ++ es) true) (row_of_getD hrow (by simp)) rfl rfl c3 (by rw [← c3']; exact c5) (fun E c news hfc hel => ?_) (fun E news hel => cells_one (arr := news.toArray) hel c6))
              rw [← c3']
              exact ⟨by have := hfc.1; omega, fun arr k1 k2 k3 => join_flat hfc c4 hel k1 k2 k3⟩
            · exact Spec.fail
          · rename_i l q hrow
            split
            · rename_i hc
              obtain ⟨c3, c4⟩ := hc
              have c4' : i2.size = 1 := c4
              refine Spec.bind (Spec.chk fun c5 => Spec.bind (Spec.chk fun c6 => ?_))
              simp only [decide_eq_true_eq] at c5 c6
              have := fin (.ints l true) (.ints (l.take n ++ q) true) (row_of_getD hrow (by simp)) rfl rfl (by rw [c3, c4']) ⟨c6, c4'⟩ (fun E c news hfc hel => ?_) (fun E news hel => ?_)
              · rw [c3] at this; exact Spec.pure' this
              · have hel' : news = q.map fun n => Value.int .i64 n := hel
                subst hel'
                rw [c4', Nat.mul_one]
                refine ⟨by have := hfc.1; omega, fun arr k1 k2 k3 => join_ints hfc c5 k1 (fun i hi => ?_) (by simpa using k3)⟩
                rw [k2 i (by simpa using hi)]
                simp [hi, List.getD]
              · have hel' : news = q.map fun n => Value.int .i64 n := hel
                subst hel'
                intro u hu
                obtain ⟨k, _, rfl⟩ := List.mem_map.1 hu
                rfl
            · exact Spec.fail
          · exact Spec.fail
        · exact Spec.fail
    · exact Spec.fail
end
end Go.Ev
end

section
namespace Go.Ev
open Go.RowKit (Below)
section
variable {g : Cfg} {n0 : Nat → Prop} {st : St} {o : Oper}

theorem copy_run (hg : g.OK) {c : Call} {x y : Operand} {t t1 : TypeId} (ho : o.op = .call c) (hb : c.callee = .builtin .copy) (hx : c.args.toList = [x, y]) (ht : c.argTypes.toList = [t, t1]) :
    Spec (copyA g st.rows st.wr t (evalO st.tm x) (evalO st.tm y)) fun r => RunOK g.P st o r := by
  refine runOK_spec fun B M0 rho a w hm hf => ?_
  have h1 : c.args = #[x, y] := by rw [← Array.toArray_toList (xs := c.args), hx]
  have h2 : c.argTypes = #[t, t1] := by rw [← Array.toArray_toList (xs := c.argTypes), ht]
  have exec : ∀ {v : Value} {w' : World}, (Builtin.copy_ #[t, t1] o.type #[a.eval x, a.eval y]).run g.P w = .ok v w' → (execOp a.eval o).run g.P w = .ok (.value v) w' := by
    intro v w' h
    rw [builtin_exec ho hb, h1, h2]
    simp only [builtin, Sem.run_bind, List.map_toArray, List.map_cons, List.map_nil, h, Result.andThen_ok, Sem.run_pure]
  unfold copyA
  refine Spec.bind (ty_spec hg fun i d z hi hd hz => ?_)
  dsimp only
  split
  · rename_i e htk
    have hd' := tk_slice htk; subst hd'
    refine Spec.bind (ty_spec hg fun i2 d2 z2 hi2 hd2 hz2 => ?_)
    refine Spec.bind (Spec.ofOpt fun p hp => ?_)
    obtain ⟨m, el⟩ := p
    dsimp only
    split
    · rename_i r off n sz hs
      have hxv := hf.eval x
      rw [hs] at hxv
      split
      · rename_i cs es hrow
        split
        · rename_i hc
          obtain ⟨c3, c4, c5, c6⟩ := hc
          have c3' : sz = i2.size := c3
          refine Spec.pure' ?_
          obtain ⟨ad, cp, news, hv, hnl, hel, hsrc⟩ := elems_run hm hp (hf.eval y) (show es.length = m * i2.size by rw [← c3']; exact c5)
          have hnl' : news.length = m * i2.size := hnl
          generalize heq : a.eval x = u at hxv
          cases hxv with
          | @own _ _ _ _ b cap hr hsb hcap hbz =>
            have hrho : rho[r]? = some b := hr
            have hrows := row_of_getD hrow (by simp)
            obtain ⟨cc, e', hbk, hfit⟩ := hm.row r _ b hrows hrho
            have hcr : CR (envOf M0 st.rows rho w) es news.toArray := hel
            have hk : Nat.min m n ≤ m := Nat.min_le_left _ _
            have hkn : Nat.min m n * sz ≤ n * sz := Nat.mul_le_mul_right _ (Nat.min_le_right _ _)
            have hkm : Nat.min m n * sz ≤ m * sz := Nat.mul_le_mul_right _ hk
            generalize hkk : Nat.min m n = k at hk hkn hkm
            have hel' : es.length = news.length := by have := hcr.1; simpa using this
            have hnk : (news.take (k * sz)).length = k * sz := by simp; rw [hnl', ← c3']; omega
            have hek : (es.take (k * sz)).length = k * sz := by simp; omega
            have hcr' : CR (envOf M0 st.rows rho w) (es.take (k * sz)) (news.take (k * sz)).toArray := by
              refine ⟨by simp only [List.size_toArray]; omega, fun i hi => ?_⟩
              have hi' : i < k * sz := by omega
              have e1 : (es.take (k * sz)).getD i .junk = es.getD i .junk := by simp only [List.getD, List.getElem?_take, hi', if_true]
              have e2 : ((news.take (k * sz)).toArray).getD i undef = news.toArray.getD i undef := by
                rw [getD_eq, getD_eq]; simp only [List.getElem?_toArray, List.getElem?_take, hi', if_true]
              rw [e1, e2]; exact hcr.2 i (by omega)
            have hlen : off + (es.take (k * sz)).length ≤ cs.length := by omega
            have hfitlen := hfit.1
            have hsp := spliced cc (news.take (k * sz)) off (by omega)
            have hfo := fits_over (b := true) hfit hcr' hlen
            have hs := stp_write (wr := st.wr) (c' := (cc.toList.take off ++ (news.take (k * sz)) ++ cc.toList.drop (off + (news.take (k * sz)).length)).toArray) (row' := .flat (over cs off (es.take (k * sz))) true) hm hrows rfl hrho hbk hsp.1 rfl hfo
            refine ⟨_, _, rho, .int .i64 (k : Int), exec ?_, .inl rfl, hs, .lit _⟩
            have hone : ∀ u ∈ news.take (k * sz), u.oneCell' = true := fun u hu => cells_one (arr := news.toArray) hcr c6 u (by simpa using List.mem_of_mem_take hu)
            have hst := run_storeCells_at (P := g.P) b off e' (news.take (k * sz)) 0 cc w hbk (by omega) hone
            have hsr := hsrc k hk g.P w rfl
            simp only at hsr
            rw [← c3'] at hsr
            simp only [Nat.add_zero] at hst
            generalize w.setRow b (cc.toList.take off ++ (news.take (k * sz)) ++ cc.toList.drop (off + (news.take (k * sz)).length)).toArray = W at hst ⊢
            simp only [Builtin.copy_]
            simp only [heq, hv]
            simp [run_underlying hd, Builtin.lenOf, run_sizeOf' hi2, ← c3', hkk]
            rw [hsr]
            simp only [Result.andThen_ok]
            rw [hst]
            rfl
        · exact Spec.fail
      · exact Spec.fail
    · exact Spec.fail
  · exact Spec.fail

/-! ### Data alone, freezing -/

/-- A row that nobody will write any more. -/
theorem stp_freeze {B : Nat} {M0 : Nat → Prop} {rows : List Row} {rho : List Nat} {wr : List Nat} {w : World} (hm : Mem B M0 rows rho w) {r : Nat} {row row' : Row} (hrow : rows[r]? = some row)
    (hs : (∃ cs b, row = .flat cs b ∧ row' = .flat cs false) ∨ (∃ l b, row = .ints l b ∧ row' = .ints l false) ∨ (∃ k l b, row = .lst k l b ∧ row' = .lst k l false)) :
    Stp B M0 rows rho wr w (rows.set r row') rho wr w := by
  have hrl : r < rows.length := (List.getElem?_eq_some_iff.1 hrow).1
  have hnl : row'.live = false := by rcases hs with ⟨cs, b, _, rfl⟩ | ⟨l, b, _, rfl⟩ | ⟨k, l, b, _, rfl⟩ <;> rfl
  have hal : row.alive = true := by rcases hs with ⟨cs, b, rfl, _⟩ | ⟨l, b, rfl, _⟩ | ⟨k, l, b, rfl, _⟩ <;> rfl
  have hM : ∀ k, ¬ Mset M0 rows rho k → ¬ Mset M0 (rows.set r row') rho k := by
    rintro k hk (h0 | ⟨s, q, h1, h2, h3⟩)
    · exact hk (.inl h0)
    · rcases set_rows hrl h1 with ⟨rfl, rfl⟩ | ⟨_, k1⟩
      · rw [hnl] at h2; cases h2
      · exact hk (.inr ⟨s, q, k1, h2, h3⟩)
  have hext : Ext (envOf M0 rows rho w) (envOf M0 (rows.set r row') rho w) := ⟨Nat.le_refl _, fun k _ hk => ⟨rfl, hM k hk⟩, fun _ _ h => h, fun _ _ => rfl⟩
  refine ⟨hext, ⟨hm.hB, hm.m0, by simp [hm.len], hm.bnd, fun s q k h1 h2 => ?_, fun s s' q q' k h1 h2 a1 a2 b1 b2 => ?_⟩, Below.refl _ _, Nat.le_refl _, fun s hs _ => hs, fun s q k _ h1 h2 h3 _ => ⟨rfl, h3, ?_⟩⟩
  · rcases set_rows hrl h1 with ⟨rfl, rfl⟩ | ⟨_, k1⟩
    · have := (hm.row s row k hrow h2).ext hext rfl
      rcases hs with ⟨cs, b, rfl, rfl⟩ | ⟨l, b, rfl, rfl⟩ | ⟨k, l, b, rfl, rfl⟩ <;> exact this
    · exact (hm.row s q k k1 h2).ext hext rfl
  · have key : ∀ (s : Nat) (q : Row), (rows.set r row')[s]? = some q → q.alive = true → ∃ q0 : Row, rows[s]? = some q0 ∧ q0.alive = true := by
      intro s q h ha
      rcases set_rows hrl h with ⟨rfl, rfl⟩ | ⟨_, k1⟩
      · exact ⟨row, hrow, hal⟩
      · exact ⟨q, k1, ha⟩
    obtain ⟨q0, g1, g2⟩ := key s q h1 a1
    obtain ⟨q1, g3, g4⟩ := key s' q' h2 a2
    exact hm.inj s s' q0 q1 k g1 g3 g2 g4 b1 b2
  · by_cases hsr : r = s
    · subst hsr
      exact ⟨row', by simp [hrl], by rcases hs with ⟨cs, b, _, rfl⟩ | ⟨l, b, _, rfl⟩ | ⟨k, l, b, _, rfl⟩ <;> rfl⟩
    · exact ⟨q, by rw [List.getElem?_set_ne hsr]; exact h1, h2⟩

/-- A frozen row's block is written by nobody. -/
theorem frozen_block {B : Nat} {M0 : Nat → Prop} {rows : List Row} {rho : List Nat} {w : World} (hm : Mem B M0 rows rho w) {r b : Nat} {row : Row} (hrow : rows[r]? = some row) (hal : row.alive = true) (hnl : row.live = false)
    (hr : rho[r]? = some b) : ¬ Mset M0 rows rho b := by
  rintro (h0 | ⟨s, q, h1, h2, h3⟩)
  · have := hm.m0 b h0
    have := (hm.bnd r b hr).1
    omega
  · have := hm.inj r s row q b hrow h1 hal (alive_of_live h2) hr h3
    subst this
    rw [hrow] at h1
    cases h1
    rw [hnl] at h2; cases h2
end
end Go.Ev
end

section
namespace Go.Ev
open Go.RowKit (Below)

/-! ### Blocks that hold no cells: records of loops, deferred calls -/

theorem Rd.heap {E : Env} {h' : Array Obj} (hs : E.heap.size ≤ h'.size) (hc : ∀ b o v, cellOf E.heap b o = some v → cellOf h' b o = some v)
    (hb : ∀ b, b < E.heap.size → bszOf h' b = bszOf E.heap b) {x : AV} {v : Value} (h : Rd E x v) : Rd ⟨h', E.M, E.rho⟩ x v := by
  have ints : ∀ {l : List Int} {a : Option Addr}, IntsAt E l a → IntsAt ⟨h', E.M, E.rho⟩ l a := by
    rintro l a (rfl | ⟨b, o, rfl, hM, hv⟩)
    · exact .inl rfl
    · exact .inr ⟨b, o, rfl, hM, fun i hi => hc _ _ _ (hv i hi)⟩
  induction h with
  | lit v => exact .lit v
  | tt => exact .tt
  | ff => exact .ff
  | junk v => exact .junk v
  | ref h1 => exact .ref h1
  | own h1 hs1 hc1 hb1 => exact .own h1 (Nat.lt_of_lt_of_le hs1 hs) hc1 (by show _ ≤ bszOf h' _; rw [hb _ hs1]; exact hb1)
  | sl0 => exact .sl0
  | sl vals hs1 hM hc1 hv _ ih => exact .sl vals (Nat.lt_of_lt_of_le hs1 hs) hM hc1 (fun i hi => hc _ _ _ (hv i hi)) ih
  | sq h1 hc1 => exact .sq (ints h1) hc1
  | qel hs1 hM h1 => exact .qel (Nat.lt_of_lt_of_le hs1 hs) hM (fun j hj => hc _ _ _ (h1 j hj))
  | pd vals hs1 hM hv _ ih => exact .pd vals (Nat.lt_of_lt_of_le hs1 hs) hM (fun i hi => hc _ _ _ (hv i hi)) ih
  | agg hl _ ih => exact .agg hl ih
  | tup hl _ ih => exact .tup hl ih
  | fn hl _ ih => exact .fn hl ih
  | wd h1 hc1 => exact .wd (ints h1) hc1
  | ni h1 hc1 => exact .ni (ints h1) hc1
  | zl _ ih => exact .zl ih
  | lst _ ih => exact .lst ih
  | rel h1 => exact .rel h1

theorem bsz_other {o : Obj} (h : o.isCells = false) : (match some o with | some (.cells c _ _) => c.size | _ => 0) = 0 := by
  cases o <;> first | rfl | cases h

section
variable {B : Nat} {M0 : Nat → Prop} {rows rows' : List Row} {rho rho' wr wr' : List Nat} {w w' : World} {l : Nat} {o o' : Obj}

theorem cellOf_putObj (ho : w.heap[l]? = some o) (hc : o.isCells = false) {b i : Nat} {v : Value} (h : cellOf w.heap b i = some v) : cellOf (w.putObj l o').heap b i = some v := by
  by_cases e : b = l
  · subst e
    unfold cellOf at h
    rw [ho] at h
    cases o <;> first | (cases h; done) | (cases hc; done)
  · unfold cellOf at *
    rw [World.putObj_heap_other e]; exact h

theorem bszOf_putObj (ho : w.heap[l]? = some o) (hc : o.isCells = false) (hc' : o'.isCells = false) (b : Nat) : bszOf (w.putObj l o').heap b = bszOf w.heap b := by
  by_cases e : b = l
  · subst e
    unfold bszOf
    rw [World.putObj_heap_same (Array.getElem?_eq_some_iff.1 ho).1, ho]
    exact (bsz_other hc').trans (bsz_other hc).symm
  · unfold bszOf
    rw [World.putObj_heap_other e]

theorem Rd.putObj (ho : w.heap[l]? = some o) (hc : o.isCells = false) (hc' : o'.isCells = false) {x : AV} {v : Value} (h : Rd (envOf M0 rows rho w) x v) : Rd (envOf M0 rows rho (w.putObj l o')) x v :=
  Rd.heap (E := envOf M0 rows rho w) (h' := (w.putObj l o').heap) (by simp [envOf]) (fun _ _ _ h => cellOf_putObj ho hc h) (fun b _ => bszOf_putObj ho hc hc' b) h

theorem Fr.putObj {tm : Fm} {tmps : Array Value} (hf : Fr (envOf M0 rows rho w) tm tmps) (ho : w.heap[l]? = some o) (hc : o.isCells = false) (hc' : o'.isCells = false) :
    Fr (envOf M0 rows rho (w.putObj l o')) tm tmps := ⟨hf.1, fun i => (hf.2 i).putObj ho hc hc'⟩

theorem Mem.putObj (hm : Mem B M0 rows rho w) (ho : w.heap[l]? = some o) (hc : o.isCells = false) (hc' : o'.isCells = false) : Mem B M0 rows rho (w.putObj l o') where
  hB := by simpa using hm.hB
  m0 := hm.m0
  len := hm.len
  bnd r b h := by simpa using hm.bnd r b h
  row r row b h1 h2 := by
    have h := hm.row r row b h1 h2
    have hne : ∀ {c : Array Value} {e : TypeId} {f : Nat × Nat}, w.heap[b]? = some (.cells c e f) → b ≠ l := by
      intro c e f hb hbl
      subst hbl
      rw [ho] at hb; cases hb; cases hc
    cases row with
    | dead => exact trivial
    | flat cs lv =>
      obtain ⟨c, e, hb, h3, h4⟩ := h
      exact ⟨c, e, (World.putObj_heap_other (hne hb)).trans hb, h3, fun i hi => (h4 i hi).putObj ho hc hc'⟩
    | ints l lv =>
      obtain ⟨c, e, hb, h3, h4⟩ := h
      exact ⟨c, e, (World.putObj_heap_other (hne hb)).trans hb, h3, h4⟩
    | lst k l lv =>
      obtain ⟨c, e, hb, h3, h4⟩ := h
      exact ⟨c, e, (World.putObj_heap_other (hne hb)).trans hb, h3, fun i hi => (h4 i hi).putObj ho hc hc'⟩
  inj := hm.inj

/-- A block that came later and holds no cells is turned. -/
theorem Stp.putObj (h : Stp B M0 rows rho wr w rows' rho' wr' w') (hm : Mem B M0 rows rho w) (hl : w.heap.size ≤ l) (ho : w'.heap[l]? = some o) (hc : o.isCells = false) (hc' : o'.isCells = false) :
    Stp B M0 rows rho wr w rows' rho' wr' (w'.putObj l o') where
  ext := ⟨by simpa [envOf] using h.ext.size, fun b hb hM => by
      obtain ⟨h1, h2⟩ := h.ext.keep b hb hM
      have hb' : b < w.heap.size := hb
      exact ⟨(World.putObj_heap_other (show b ≠ l by omega)).trans h1, h2⟩, h.ext.rho, fun b hb => (bszOf_putObj ho hc hc' b).trans (h.ext.bsz b hb)⟩
  mem := h.mem.putObj ho hc hc'
  below := ⟨h.below.os, h.below.tape, h.below.output, by simpa using h.below.size, fun k hk => by
      have := hm.hB
      exact (World.putObj_heap_other (show k ≠ l by omega)).trans (h.below.block k hk)⟩
  frm := ⟨h.frm.1, h.frm.2.1, fun r row b h1 h2 h3 h4 h5 => by
      obtain ⟨k1, k2⟩ := h.frm.2.2 r row b h1 h2 h3 h4 h5
      have := (hm.bnd r b h4).2
      exact ⟨(World.putObj_heap_other (show b ≠ l by omega)).trans k1, k2⟩⟩

theorem Stp.of_below (hm : Mem B M0 rows rho w) (hb : Below w.heap.size w w') : Stp B M0 rows rho wr w rows rho wr w' := by
  have hext : Ext (envOf M0 rows rho w) (envOf M0 rows rho w') := ⟨hb.size, fun b hlt hM => ⟨hb.block b hlt, hM⟩, fun _ _ h => h, fun b hlt => by
    show bszOf w'.heap b = bszOf w.heap b
    unfold bszOf; rw [hb.block b hlt]⟩
  exact ⟨hext, ⟨Nat.le_trans hm.hB hb.size, hm.m0, hm.len, fun r b h => ⟨(hm.bnd r b h).1, Nat.lt_of_lt_of_le (hm.bnd r b h).2 hb.size⟩,
    fun r row b h1 h2 => (hm.row r row b h1 h2).ext hext (hb.block b (hm.bnd r b h2).2), hm.inj⟩, hb.mono hm.hB, Nat.le_refl _, fun s h _ => h, fun r row b _ h1 h2 h3 _ => ⟨hb.block b (hm.bnd r b h3).2, h3, row, h1, h2⟩⟩

theorem Mem.lt (hm : Mem B M0 rows rho w) {b : Nat} (h : Mset M0 rows rho b) : b < w.heap.size := by
  rcases h with h0 | ⟨r, row, _, _, h3⟩
  · have := hm.m0 b h0; have := hm.hB; omega
  · exact (hm.bnd r b h3).2
end

/-- Elements of data: where they lie. -/
theorem elems_data {E : Env} {rows : List Row} {sz n : Nat} {x : AV} {els : List AV ⊕ List Int} {v : Value} (he : elemsN rows sz x = some (n, els)) (hd : isData 20 x = true) (hv : Rd E x v) :
    ∃ a cap, ∃ vals : Nat → Value, v = .slice a n cap ∧ (n = 0 ∨ ∃ b o, a = some ⟨b, o, none⟩ ∧ b < E.heap.size ∧ ¬ E.M b ∧ ∀ i, i < n * sz → cellOf E.heap b (o + i) = some (vals i)) ∧
      ∀ i, i < n * sz → Rd E (cellAt els i) (vals i) := by
  unfold elemsN at he
  split at he
  · cases hd
  · rename_i cs m
    split at he
    · rename_i hl
      cases he
      cases hv with
      | sl0 => exact ⟨_, _, fun _ => undef, rfl, .inl rfl, fun i hi => (by omega)⟩
      | sl vals hs hM hc hv hr => exact ⟨_, _, vals, rfl, .inr ⟨_, _, rfl, hs, hM, fun i hi => hv i (by omega)⟩, fun i hi => hr i (by omega)⟩
    · cases he
  · rename_i k l
    split at he
    · rename_i hl
      cases he
      have hcl : (cellsL k l).length = l.length * sz := by rw [hl]; exact cellsL_length k l
      cases hv with
      | lst hv =>
        generalize l.length = m at hv hcl
        cases hv with
        | sl0 => exact ⟨_, _, fun _ => undef, rfl, .inl rfl, fun i hi => (by omega)⟩
        | sl vals hs hM hc hv hr => exact ⟨_, _, vals, rfl, .inr ⟨_, _, rfl, hs, hM, fun i hi => hv i (by omega)⟩, fun i hi => hr i (by omega)⟩
    · cases he
  · split at he
    · rename_i l hx
      split at he
      · rename_i hsz
        cases he
        subst hsz
        obtain ⟨a, cap, rfl, hcap, hi⟩ := ints_inv hx hv
        refine ⟨a, cap, fun i => .int .i64 (l.getD i 0), rfl, ?_, fun i hi => .lit _⟩
        rcases hi with rfl | ⟨b, o, rfl, hM, hv⟩
        · exact .inl rfl
        · cases l with
          | nil => exact .inl rfl
          | cons z l => exact .inr ⟨b, o, rfl, lt_of_cellOf (hv 0 (by simp)), hM, fun i hi => hv i (by omega)⟩
      · cases he
    · cases he

end Go.Ev
end

section
namespace Go.Ev
open Go.RowKit (Below)
section
variable {g : Cfg} {n0 : Nat → Prop} {st : St} {o : Oper}

def FrzOK (f : Nat) : Prop :=
  (∀ rows x x' rows' ps, frz f rows x = some (x', rows', ps) → (∀ p ∈ ps, p) → ∀ B M0 rho wr w v, Mem B M0 rows rho w → Rd (envOf M0 rows rho w) x v →
    Stp B M0 rows rho wr w rows' rho wr w ∧ Rd (envOf M0 rows' rho w) x' v) ∧
  (∀ rows l l' rows' ps, frzL f rows l = some (l', rows', ps) → (∀ p ∈ ps, p) → ∀ B M0 rho wr w (vals : Nat → Value), Mem B M0 rows rho w → (∀ i, i < l.length → Rd (envOf M0 rows rho w) (l.getD i .junk) (vals i)) →
    Stp B M0 rows rho wr w rows' rho wr w ∧ l'.length = l.length ∧ ∀ i, i < l'.length → Rd (envOf M0 rows' rho w) (l'.getD i .junk) (vals i))

theorem frz_ok : ∀ f, FrzOK f
  | 0 => ⟨fun rows x x' rows' ps h => by simp [frz] at h, fun rows l l' rows' ps h => by simp [frzL] at h⟩
  | f + 1 => by
    obtain ⟨ih1, ih2⟩ := frz_ok f
    refine ⟨fun rows x x' rows' ps h hps B M0 rho wr w v hm hr => ?_, fun rows l l' rows' ps h hps B M0 rho wr w vals hm hr => ?_⟩
    · unfold frz at h
      split at h
      · rename_i r off n sz
        cases hr with
        | @own _ _ _ _ b cap hrb hsb hcap hbz =>
          have hrho : rho[r]? = some b := hrb
          split at h
          · rename_i cs lv hrow
            split at h
            · rename_i hle
              split at h
              · rename_i cs' rows'' ps' hL
                cases h
                have hrows := row_of_getD hrow (by simp)
                have hs1 := stp_freeze (wr := wr) hm hrows (.inl ⟨cs, lv, rfl, rfl⟩)
                have hrl : r < rows.length := (List.getElem?_eq_some_iff.1 hrows).1
                have hrow1 : (rows.set r (.flat cs false))[r]? = some (.flat cs false) := by simp [hrl]
                obtain ⟨c, e, hbk, hlc, hcs⟩ := hs1.mem.row r _ b hrow1 hrho
                have hbk' : w.heap[b]? = some (.cells c e (0, 0)) := hbk
                obtain ⟨hs2, hl2, hr2⟩ := ih2 _ _ _ _ _ hL hps B M0 rho wr w (fun i => c.getD (off + i) undef) hs1.mem (fun i hi => by
                  have hi' : i < n * sz := by simp at hi; omega
                  have e1 : ((cs.drop off).take (n * sz)).getD i .junk = cs.getD (off + i) .junk := by
                    simp only [List.getD, List.getElem?_take, hi', if_true, List.getElem?_drop]
                  rw [e1]; exact hcs _ (by omega))
                refine ⟨hs1.trans hs2, .sl (fun i => c.getD (off + i) undef) hsb ?_ hcap (fun i hi => ?_) hr2⟩
                · have h1 := frozen_block hs1.mem hrow1 rfl rfl hrho
                  exact (hs2.ext.keep b hsb h1).2
                · have hi' : i < n * sz := by rw [hl2] at hi; simp at hi; omega
                  have hoc : off + i < c.size := by omega
                  show cellOf w.heap b (off + i) = _
                  simp [cellOf, hbk', hoc, Array.getD]
              · cases h
            · cases h
          · rename_i l lv hrow
            split at h
            · rename_i hc
              obtain ⟨rfl, rfl⟩ := hc
              cases h
              have hnl : n ≤ l.length := hps _ (List.mem_cons_self ..)
              have hrows := row_of_getD hrow (by simp)
              have hs1 := stp_freeze (wr := wr) hm hrows (.inr (.inl ⟨l, lv, rfl, rfl⟩))
              have hrl : r < rows.length := (List.getElem?_eq_some_iff.1 hrows).1
              have hrow1 : (rows.set r (.ints l false))[r]? = some (.ints l false) := by simp [hrl]
              obtain ⟨c, e, hbk, hlc, hcs⟩ := hs1.mem.row r _ b hrow1 hrho
              have hbk' : w.heap[b]? = some (.cells c e (0, 0)) := hbk
              have hlen : (l.take n).length = n := by simp; omega
              refine ⟨hs1, ?_⟩
              have := Rd.sq (E := envOf M0 (rows.set r (.ints l false)) rho w) (l := l.take n) (a := some ⟨b, 0, none⟩) (cap := cap) (.inr ⟨b, 0, rfl, frozen_block hs1.mem hrow1 rfl rfl hrho, fun i hi => ?_⟩) (by omega)
              · rw [hlen] at this; exact this
              · have hi' : i < n := by omega
                show cellOf w.heap b (0 + i) = _
                have h1 : (l.take n).getD i 0 = l.getD i 0 := by simp only [List.getD, List.getElem?_take, hi', if_true]
                rw [h1, Nat.zero_add]
                simp only [cellOf, hbk']
                exact hcs i (by omega)
            · cases h
          · rename_i k l lv hrow
            split at h
            · rename_i hc
              obtain ⟨rfl, rfl⟩ := hc
              cases h
              have hnl : n ≤ l.length := hps _ (List.mem_cons_self ..)
              have hrows := row_of_getD hrow (by simp)
              have hs1 := stp_freeze (wr := wr) hm hrows (.inr (.inr ⟨k, l, lv, rfl, rfl⟩))
              have hrl : r < rows.length := (List.getElem?_eq_some_iff.1 hrows).1
              have hrow1 : (rows.set r (.lst k l false))[r]? = some (.lst k l false) := by simp [hrl]
              obtain ⟨c, e, hbk, hlc, hcs⟩ := hs1.mem.row r _ b hrow1 hrho
              have hbk' : w.heap[b]? = some (.cells c e (0, 0)) := hbk
              have hlen : (l.take n).length = n := by simp; omega
              refine ⟨hs1, .lst ?_⟩
              rw [hlen]
              have hcl : (cellsL k (l.take n)).length = n * k.sz := by rw [cellsL_length, hlen]
              have hcl2 := cellsL_length k l
              have hmul : n * k.sz ≤ l.length * k.sz := Nat.mul_le_mul_right _ hnl
              refine .sl (b := b) (o := 0) (fun i => c.getD i undef) hsb (frozen_block hs1.mem hrow1 rfl rfl hrho) hcap (fun i hi => ?_) (fun i hi => ?_)
              · have hoc : i < c.size := by omega
                show cellOf w.heap b (0 + i) = _
                simp [cellOf, hbk', hoc, Array.getD]
              · rw [cellsL_take]
                have hi' : i < n * k.sz := by omega
                have e1 : ((cellsL k l).take (n * k.sz)).getD i .junk = (cellsL k l).getD i .junk := by
                  simp only [List.getD, List.getElem?_take, hi', if_true]
                rw [e1]; exact hcs i (by omega)
            · cases h
          · cases h
      · rename_i r off
        cases hr with
        | @ref _ _ b hrb =>
          have hrho : rho[r]? = some b := hrb
          split at h
          · rename_i cs lv hrow
            split at h
            · rename_i cs' rows'' ps' hL
              cases h
              have hrows := row_of_getD hrow (by simp)
              have hs1 := stp_freeze (wr := wr) hm hrows (.inl ⟨cs, lv, rfl, rfl⟩)
              have hrl : r < rows.length := (List.getElem?_eq_some_iff.1 hrows).1
              have hrow1 : (rows.set r (.flat cs false))[r]? = some (.flat cs false) := by simp [hrl]
              obtain ⟨c, e, hbk, hlc, hcs⟩ := hs1.mem.row r _ b hrow1 hrho
              have hbk' : w.heap[b]? = some (.cells c e (0, 0)) := hbk
              obtain ⟨hs2, hl2, hr2⟩ := ih2 _ _ _ _ _ hL hps B M0 rho wr w (fun i => c.getD i undef) hs1.mem hcs
              refine ⟨hs1.trans hs2, ?_⟩
              have hsb := (hm.bnd r b hrho).2
              have := Rd.pd (E := envOf M0 rows' rho w) (cells := cs') (off := off) (b := b) (o := 0) (fun i => c.getD i undef) hsb (by
                have h1 := frozen_block hs1.mem hrow1 rfl rfl hrho
                exact (hs2.ext.keep b hsb h1).2) (fun i hi => by
                  have hoc : i < c.size := by omega
                  show cellOf w.heap b (0 + i) = _
                  simp [cellOf, hbk', hoc, Array.getD]) hr2
              rw [Nat.zero_add] at this
              exact this
            · cases h
          · cases h
      · split at h
        · rename_i cs' rows'' ps' hL
          cases h
          cases hr with
          | agg hl hrr =>
            obtain ⟨hs2, hl2, hr2⟩ := ih2 _ _ _ _ _ hL hps B M0 rho wr w _ hm hrr
            exact ⟨hs2, .agg (by omega) hr2⟩
        · cases h
      · split at h
        · rename_i cs' rows'' ps' hL
          cases h
          cases hr with
          | tup hl hrr =>
            obtain ⟨hs2, hl2, hr2⟩ := ih2 _ _ _ _ _ hL hps B M0 rho wr w _ hm hrr
            exact ⟨hs2, .tup (by omega) hr2⟩
        · cases h
      · cases h
      · split at h
        · cases h; exact ⟨Stp.refl hm, hr⟩
        · cases h
      · split at h
        · cases h; exact ⟨Stp.refl hm, hr⟩
        · cases h
      · split at h
        · cases h; exact ⟨Stp.refl hm, hr⟩
        · cases h
      · cases h; exact ⟨Stp.refl hm, hr⟩
    · cases l with
      | nil =>
        simp only [frzL, Option.some.injEq, Prod.mk.injEq] at h
        obtain ⟨rfl, rfl, rfl⟩ := h
        exact ⟨Stp.refl hm, rfl, fun i hi => by simp at hi⟩
      | cons x l =>
        simp only [frzL] at h
        split at h
        · rename_i x1 rows1 ps1 hx
          split at h
          · rename_i l1 rows2 ps2 hl
            simp only [Option.some.injEq, Prod.mk.injEq] at h
            obtain ⟨rfl, rfl, rfl⟩ := h
            obtain ⟨hs1, hr1⟩ := ih1 _ _ _ _ _ hx (fun p hp => hps p (List.mem_append_left _ hp)) B M0 rho wr w (vals 0) hm (hr 0 (by simp))
            obtain ⟨hs2, hl2, hr2⟩ := ih2 _ _ _ _ _ hl (fun p hp => hps p (List.mem_append_right _ hp)) B M0 rho wr w (fun i => vals (i + 1)) hs1.mem (fun i hi => (hr (i + 1) (by simpa using hi)).ext hs1.ext)
            refine ⟨hs1.trans hs2, by simp [hl2], fun i hi => ?_⟩
            cases i with
            | zero => exact hr1.ext hs2.ext
            | succ i => exact hr2 i (by simpa using hi)
          · cases h
        · cases h

/-! ### Calls -/

theorem run_callFunc {P : Program} {f : FuncId} {fn : Func} (hf : P.funcs[f]? = some fn) (hb : fn.body.isNone = false) (hn : (fn.name == "runtime.NumGoroutine") = false) (args : Array Value) (w : World) :
    (callFunc f args).run P w = .ok (.enter f args) w := by
  simp only [callFunc, Sem.run_bind, run_program, Result.andThen_ok, hf, hn, hb, Bool.false_eq_true, if_false, Sem.run_pure]

/-- What a body's walk is to give. -/
def RunnerOK (P : Program) (run : Runner) : Prop := ∀ c st, Spec (run c st) fun r => AW P c st r

/-- A call, from the arguments on. -/
def CallOK (P : Program) (rows : List Row) (wr : List Nat) (f : FuncId) (args : List AV) (r : Out) : Prop :=
  ∀ B M0 rho w (vs : Array Value), Mem B M0 rows rho w → Fa (envOf M0 rows rho w) args vs →
    Calls P f vs w fun e w' => ∃ v, e = .returned v ∧ ∃ rho', Stp B M0 rows rho wr w r.rows rho' r.wr w' ∧ Rd (envOf M0 r.rows rho' w') r.v v

theorem M.assoc {α β γ : Type} (m : M α) (f : α → M β) (k : β → M γ) : M.bind (M.bind m f) k = M.bind m fun x => M.bind (f x) k := by
  funext c s
  unfold M.bind
  cases m c s with
  | need b => rfl
  | atLoop b st => rfl
  | fail n => rfl
  | ok x s1 c1 =>
    dsimp only
    cases f x c s1 with
    | need b => rfl
    | atLoop b st => rfl
    | fail n => rfl
    | ok y s2 c2 =>
      dsimp only
      cases k y c s2 with
      | need b => rfl
      | atLoop b st => rfl
      | fail n => rfl
      | ok z s3 c3 => simp
theorem Spec.assoc {α β γ : Type} {m : M α} {f : α → M β} {k : β → M γ} {Q : γ → Prop} (h : Spec ((m >>= f) >>= k) Q) : Spec (m >>= fun x => f x >>= k) Q := by
  have : ((m >>= f) >>= k) = (m >>= fun x => f x >>= k) := M.assoc m f k
  rw [← this]; exact h

def resVar (tmps : Array Value) : ResultVar → Sem Value
  | .tmp t => pure (tmps.getD t undef)
  | .cell a t => do loadVar t (← asAddr (tmps.getD a undef))

theorem results_spec (hg : g.OK) {st : St} {B : Nat} {M0 : Nat → Prop} {rho : List Nat} {w : World} {tmps : Array Value} (hm : Mem B M0 st.rows rho w) (hf : Fr (envOf M0 st.rows rho w) st.tm tmps) :
    ∀ (l : List ResultVar), Spec (resultsA g st l) fun vs => ∃ us : List Value, vs.length = us.length ∧ (∀ i, i < vs.length → Rd (envOf M0 st.rows rho w) (vs.getD i .junk) (us.getD i undef)) ∧
      (l.mapM (resVar tmps)).run g.P w = .ok us w
  | [] => Spec.pure' ⟨[], rfl, fun i hi => by simp at hi, rfl⟩
  | .tmp t :: l => by
    refine Spec.bind ((results_spec hg hm hf l).mono fun vs ⟨us, h1, h2, h3⟩ => Spec.pure' ⟨tmps.getD t undef :: us, by simp [h1], fun i hi => ?_, ?_⟩)
    · cases i with
      | zero => exact hf.getD t
      | succ i => exact h2 i (by simpa using hi)
    · simp only [List.mapM_cons, Sem.run_bind, resVar, Sem.run_pure, Result.andThen_ok, h3]
  | .cell a t :: l => by
    unfold resultsA
    have hload : Spec (do let ti ← ty g t; loadA st.rows ti (st.tm.get a)) fun x => ∃ v, Rd (envOf M0 st.rows rho w) x v ∧ (do loadVar t (← asAddr (tmps.getD a undef)) : Sem Value).run g.P w = .ok v w := by
      let o : Oper := { dst := none, op := .load t (.tmp a), type := 0, pos := "", after := #[], guard := none }
      have hp := load_pure (g := g) (n0 := fun _ => True) (st := st) (o := o) hg (t := t) (a := .tmp a) rfl
      intro c s x s' cs he hcs
      have hn : ∀ r off, evalO st.tm (.tmp a) = .ref r off → True := fun _ _ _ => trivial
      obtain ⟨v, hv, hr⟩ := hp hn c s x s' cs he hcs B M0 rho ⟨tmps, []⟩ w hm hf
      refine ⟨v, hv, ?_⟩
      have hr1 := hr w (Keeps.refl _ _ _ _ _)
      have hr2 : ((Instr.loadAt t (tmps.getD a undef)).run g.P w).andThen (fun x w' => (pure (.value x) : Sem Next).run g.P w') = .ok (.value v) w := by
        have : (execOp (Act.eval ⟨tmps, []⟩) o) = (do pure (.value (← Instr.loadAt t (tmps.getD a undef))) : Sem Next) := rfl
        rw [this, Sem.run_bind] at hr1
        exact hr1
      have hr3 : (Instr.loadAt t (tmps.getD a undef)).run g.P w = .ok v w := by
        cases hq : (Instr.loadAt t (tmps.getD a undef)).run g.P w with
        | ok x w' =>
          rw [hq] at hr2
          simp only [Result.andThen_ok, Sem.run_pure, Result.ok.injEq, Next.value.injEq] at hr2
          rw [hr2.1, hr2.2]
        | halt h w' => rw [hq] at hr2; simp at hr2
      generalize tmps.getD a undef = p at hr3
      cases p with
      | pointer ad =>
        cases ad with
        | none => simp [Instr.loadAt, Instr.sureAddr] at hr3
        | some ad =>
          simp only [Instr.loadAt, Instr.sureAddr, Sem.run_bind, Sem.run_pure, Result.andThen_ok] at hr3
          simp only [asAddr, Sem.run_bind, Sem.run_pure, Result.andThen_ok, hr3]
      | _ => simp [Instr.loadAt, Instr.sureAddr] at hr3
    refine Spec.assoc (m := ty g t) (f := fun ti => loadA st.rows ti (st.tm.get a)) ?_
    refine Spec.bind (hload.mono fun x ⟨v, hv, hr⟩ => Spec.bind ((results_spec hg hm hf l).mono fun vs ⟨us, h1, h2, h3⟩ => Spec.pure' ⟨v :: us, by simp [h1], fun i hi => ?_, ?_⟩))
    · cases i with
      | zero => exact hv
      | succ i => exact h2 i (by simpa using hi)
    · have hr' : (resVar tmps (.cell a t)).run g.P w = .ok v w := hr
      simp only [List.mapM_cons, Sem.run_bind, Sem.run_pure, hr', Result.andThen_ok, h3]

/-- On the way out: the marks are passed. -/
theorem leaves_marks {P : Program} {fn : Func} {R : Ending → World → Prop} {B : Nat} {M0 : Nat → Prop} {rows rows' : List Row} {rho rho' wr wr' : List Nat} {w : World} {tm : Fm} {tmps : Array Value} (hm : Mem B M0 rows rho w)
    (hleave : ∀ w2, Stp B M0 rows rho wr w rows' rho' wr' w2 → Fr (envOf M0 rows' rho' w2) tm tmps → LeavesIn (fen none) 0 P fn tmps R [] .returning w2) :
    ∀ (rs : List Nat) (w' : World), Stp B M0 rows rho wr w rows' rho' wr' w' → Fr (envOf M0 rows' rho' w') tm tmps → rs.Nodup →
      (∀ r ∈ rs, w.heap.size ≤ r ∧ r < w'.heap.size ∧ ¬ Mset M0 rows' rho' r ∧ w'.heap[r]? = some (.deferred (some []))) → LeavesInM (fen none) 0 P fn tmps R (rs.map markD) .returning w'
  | [], w', hs, hf, _, _ => hleave w' hs hf
  | r :: rs, w', hs, hf, hnd, hall => by
    obtain ⟨h1, h2, h3, h4⟩ := hall r (by simp)
    obtain ⟨hn1, hn2⟩ := List.nodup_cons.1 hnd
    refine ⟨(by intro h; cases h), .inl ⟨r, w'.putObj r (.deferred none), rfl, run_takeDeferred h4, ?_⟩⟩
    refine leaves_marks hm hleave rs _ (hs.putObj hm h1 h4 rfl rfl) (hf.putObj h4 rfl rfl) hn2 (fun s hs' => ?_)
    obtain ⟨k1, k2, k3, k4⟩ := hall s (by simp [hs'])
    exact ⟨k1, by simpa using k2, k3, (World.putObj_heap_other (show s ≠ r from fun e => hn1 (by rw [← e]; exact hs'))).trans k4⟩

theorem call_spec_body (hg : g.OK) {run : Runner} (hrun : RunnerOK g.P run) {f : FuncId} {fn : Func} (hfn : fnOf g.P f = some fn) {c : Code} (hc : fn.body = some c) {args : List AV} (hnt : ¬ fn.ntmps < args.length) (rows : List Row) (wr : List Nat) :
    Spec (run c ⟨Fm.args fn.ntmps args, rows, wr⟩) fun r => (r.1 = .normal ∨ r.1 = .ret) → Spec (resultsA g r.2 fn.results.toList) fun vs => CallOK g.P rows wr f args ⟨one vs, r.2.rows, r.2.wr⟩ := by
  obtain ⟨hF1, hF2, hF3⟩ := hg.F f fn hfn
  refine (hrun c _).mono fun r haw => ?_
  obtain ⟨ex, st'⟩ := r
  intro hex
  have fin : Spec (do let vs ← resultsA g st' fn.results.toList; M.pure (⟨one vs, st'.rows, st'.wr⟩ : Out)) fun r => CallOK g.P rows wr f args r := by
        intro cc s x s' cs he hcs B M0 rho w vs hm hf
        have hsz : vs.size = args.length := hf.1.symm
        refine callsIn_wide.1 (callsIn_of_wp_marks (F := fen none) (n := 0) hF1 hc trivial ?_ rfl)
        have hfr : Fr (envOf M0 rows rho w) (Fm.args fn.ntmps args) (vs ++ Array.replicate (fn.ntmps - vs.size) undef) := Fr.args hf hnt
        refine wpIn_mono (haw B M0 w.heap.size rho ⟨vs ++ Array.replicate (fn.ntmps - vs.size) undef, []⟩ w none rfl hm hfr (Mk.nil (Nat.le_refl _))) ?_
        rintro e a' w1 ⟨hee, rho', hs1, hf1, hmk⟩
        have hleave : ∀ w', Stp B M0 rows rho wr w st'.rows rho' st'.wr w' → Fr (envOf M0 st'.rows rho' w') st'.tm a'.tmps →
            ∃ v, (results fn a'.tmps).run g.P w' = .ok v w' ∧ ∃ u, Ending.returned v = .returned u ∧ ∃ rho', Stp B M0 rows rho wr w x.rows rho' x.wr w' ∧ Rd (envOf M0 x.rows rho' w') x.v u := by
          intro w' hs hf'
          have hres := Spec.bind (Q := fun r : Out => ∃ v, (results fn a'.tmps).run g.P w' = .ok v w' ∧ r.rows = st'.rows ∧ r.wr = st'.wr ∧ Rd (envOf M0 st'.rows rho' w') r.v v)
            ((results_spec hg hs.mem hf' fn.results.toList).mono fun vs ⟨us, h1, h2, h3⟩ => Spec.pure' (x := (⟨one vs, st'.rows, st'.wr⟩ : Out)) (Q := fun r : Out => ∃ v, (results fn a'.tmps).run g.P w' = .ok v w' ∧ r.rows = st'.rows ∧ r.wr = st'.wr ∧ Rd (envOf M0 st'.rows rho' w') r.v v) (by
              have hm3 : (fn.results.mapM (resVar a'.tmps)).run g.P w' = .ok us.toArray w' := by
                rw [← Array.toArray_toList (xs := fn.results), List.mapM_toArray, Sem.run_map, h3]; rfl
              have hres : results fn a'.tmps = (do let vs ← fn.results.mapM (resVar a'.tmps); pure (if h : vs.size = 1 then vs[0] else .tuple vs)) := rfl
              rw [hres, Sem.run_bind, hm3]
              simp only [Result.andThen_ok, Sem.run_pure]
              by_cases h1' : us.length = 1
              · obtain ⟨u, rfl⟩ := List.length_eq_one_iff.1 h1'
                obtain ⟨v, rfl⟩ := List.length_eq_one_iff.1 (h1.trans h1')
                exact ⟨u, by simp, by simp, by simp, h2 0 (by simp)⟩
              · refine ⟨.tuple us.toArray, by simp [h1'], by simp, by simp, ?_⟩
                have hone : one vs = .tup vs := by
                  cases vs with
                  | nil => rfl
                  | cons v vs => cases vs with
                    | nil => exact absurd h1.symm h1'
                    | cons _ _ => rfl
                show Rd _ (one vs) _
                rw [hone]
                refine .tup (by simpa using h1) fun i hi => ?_
                have e2 : us.toArray.getD i undef = us.getD i undef := by simp [List.getD]
                rw [e2]; exact h2 i hi))
          obtain ⟨v, k1, k2, k3, k4⟩ := hres cc s x s' cs he hcs
          have hfinal : ∃ u, Ending.returned v = .returned u ∧ ∃ rho', Stp B M0 rows rho wr w x.rows rho' x.wr w' ∧ Rd (envOf M0 x.rows rho' w') x.v u := by
            refine ⟨v, rfl, rho', ?_, ?_⟩
            · rw [k2, k3]; exact hs
            · rw [k2]; exact k4
          exact ⟨v, k1, hfinal⟩
        obtain ⟨_, rs, hrs, hnd, hall⟩ := hmk
        have hfin := leaves_marks (P := g.P) (fn := fn) (R := fun e w' => ∃ v, e = .returned v ∧ ∃ rho', Stp B M0 rows rho wr w x.rows rho' x.wr w' ∧ Rd (envOf M0 x.rows rho' w') x.v v) hm (fun w2 h1 h2 => hleave w2 h1 h2) rs w1 hs1 hf1 hnd hall
        rw [← hrs] at hfin
        subst hee
        rcases hex with rfl | rfl
        · exact hfin
        · exact hfin
  intro cc s vs s' cs he hcs
  refine fin cc s ⟨one vs, st'.rows, st'.wr⟩ s' cs ?_ hcs
  show M.bind _ _ cc s = _
  unfold M.bind
  rw [he]
  simp [M.pure]

theorem use_spec {f : FuncId} : Spec (useA g f) fun b => b = true → g.has.contains f = true := by
  unfold useA
  split
  · exact Spec.pure' fun h => (by cases h)
  · rename_i h
    split
    · exact Spec.pure' fun _ => h
    · refine Spec.bind (Spec.nextLoop fun o => ?_)
      cases o with
      | some _ => exact Spec.pure' fun _ => h
      | none => exact Spec.pure' fun h => (by cases h)

theorem call_spec (hg : g.OK) {run : Runner} (hrun : RunnerOK g.P run) (rows : List Row) (wr : List Nat) (f : FuncId) (args : List AV) :
    Spec (callA g run rows wr f args) fun r => CallOK g.P rows wr f args r := by
  unfold callA
  refine Spec.bind (Spec.ofOpt fun fn hfn => ?_)
  obtain ⟨hF1, hF2, hF3⟩ := hg.F f fn hfn
  refine Spec.bind (use_spec.mono fun use huse => ?_)
  split
  · rename_i hu
    have hhas := huse hu
    refine Spec.bind (Spec.ofOpt fun p hp => ?_)
    obtain ⟨as, rows', fps⟩ := p
    dsimp only
    refine Spec.bind (Spec.tellAll fun hfps => ?_)
    split
    · rename_i hdata
      refine Spec.bind ((hg.C f as hhas hdata).mono fun v hfc => Spec.pure' ?_)
      intro B M0 rho w vs hm hf
      obtain ⟨hs, hl, hr⟩ := (frz_ok 40).2 rows args as rows' fps hp hfps B M0 rho wr w (fun i => vs.getD i undef) hm hf.2
      have hall : ∀ i, i < as.length → Rd ⟨w.heap, Mset M0 rows' rho, []⟩ (as.getD i .junk) (vs.getD i undef) := fun i hi =>
        Rd.data (E := envOf M0 rows' rho w) (E' := ⟨w.heap, Mset M0 rows' rho, []⟩) rfl (fun _ h => h) (hr i hi) 20 (List.all_eq_true.1 hdata _ (by simp [List.getD, hi]))
      have hMb : ∀ b, Mset M0 rows' rho b → b < w.heap.size := by
        rintro b (h0 | ⟨r, row, _, _, h3⟩)
        · have := hm.m0 b h0; have := hm.hB; omega
        · exact (hs.mem.bnd r b h3).2
      refine (hfc (Mset M0 rows' rho) w vs hMb (by rw [hl]; exact hf.1) hall).mono ?_
      rintro e w' ⟨u, he, hb, hu⟩
      have hext : Ext (envOf M0 rows' rho w) (envOf M0 rows' rho w') := ⟨hb.size, fun b hlt hM => ⟨hb.block b hlt, hM⟩, fun _ _ h => h, fun b hlt => by
        show bszOf w'.heap b = bszOf w.heap b
        unfold bszOf; rw [hb.block b hlt]⟩
      have hmem : Mem B M0 rows' rho w' := ⟨Nat.le_trans hm.hB hb.size, hm.m0, hs.mem.len, fun r b h => ⟨(hs.mem.bnd r b h).1, Nat.lt_of_lt_of_le (hs.mem.bnd r b h).2 hb.size⟩,
        fun r row b h1 h2 => (hs.mem.row r row b h1 h2).ext hext (hb.block b (hs.mem.bnd r b h2).2), hs.mem.inj⟩
      have hstep : Stp B M0 rows' rho wr w rows' rho wr w' := ⟨hext, hmem, hb.mono hm.hB, Nat.le_refl _, fun s h _ => h, fun r row b _ h1 h2 h3 _ => ⟨hb.block b (hs.mem.bnd r b h3).2, h3, row, h1, h2⟩⟩
      refine ⟨u, he, rho, hs.trans hstep, Rd.ext (E := ⟨w'.heap, Mset M0 rows' rho, []⟩) (E' := envOf M0 rows' rho w') ⟨Nat.le_refl _, fun _ _ h => ⟨rfl, h⟩, fun r b h => (by cases h), fun _ _ => rfl⟩ hu⟩
    · exact Spec.fail
  · refine Spec.bind (Spec.ofOpt fun c hc => ?_)
    split
    · exact Spec.fail
    · rename_i hnt
      refine Spec.bind ((call_spec_body hg hrun hfn hc hnt rows wr).mono fun r hr => ?_)
      obtain ⟨ex, st'⟩ := r
      dsimp only at hr ⊢
      have fin : (ex = .normal ∨ ex = .ret) → Spec (do let vs ← resultsA g st' fn.results.toList; M.pure (⟨one vs, st'.rows, st'.wr⟩ : Out)) fun r => CallOK g.P rows wr f args r := fun hex =>
        Spec.bind ((hr hex).mono fun vs h => Spec.pure' h)
      split
      · exact Spec.fail
      · rename_i hne
        refine fin ?_
        cases ex with
        | normal => exact .inl rfl
        | ret => exact .inr rfl
        | exit id => exact absurd rfl (hne id)
end
end Go.Ev
end

section
namespace Go.Ev
open Go.RowKit (Below)

/-! ### One abstract value serves for another -/

def Le (x y : AV) : Prop := ∀ (E : Env) (v : Value), Rd E x v → Rd E y v
theorem Le.refl (x : AV) : Le x x := fun _ _ h => h
theorem Le.trans {x y z : AV} (h : Le x y) (k : Le y z) : Le x z := fun E v hr => k E v (h E v hr)
inductive LeL : List AV → List AV → Prop
  | nil : LeL [] []
  | cons {x y : AV} {l q : List AV} (h : Le x y) (k : LeL l q) : LeL (x :: l) (y :: q)
theorem LeL.refl : ∀ l, LeL l l
  | [] => .nil
  | x :: l => .cons (Le.refl x) (LeL.refl l)
theorem LeL.length {l q : List AV} (h : LeL l q) : l.length = q.length := by
  induction h with
  | nil => rfl
  | cons _ _ ih => simp [ih]
theorem LeL.getD {l q : List AV} (h : LeL l q) : ∀ i, Le (l.getD i .junk) (q.getD i .junk) := by
  induction h with
  | nil => intro i; exact Le.refl _
  | cons h _ ih =>
    intro i
    cases i with
    | zero => exact h
    | succ i => simpa using ih i
theorem LeL.append {a b c d : List AV} (h : LeL a b) (k : LeL c d) : LeL (a ++ c) (b ++ d) := by
  induction h with
  | nil => exact k
  | cons h _ ih => exact .cons h ih
theorem Le.sl {l q : List AV} {n : Nat} (h : LeL l q) : Le (.sl l n) (.sl q n) := by
  intro E v hr
  cases hr with
  | sl0 => exact .sl0
  | sl vals hs hM hc hv hc2 => exact .sl vals hs hM hc (fun i hi => hv i (by rw [h.length]; exact hi)) fun i hi => h.getD i _ _ (hc2 i (by rw [h.length]; exact hi))

/-! ### Data read from cells -/

theorem cells_int (l : List Int) : cellsL (.int .i64) l = l.map fun n => AV.lit (.int .i64 n) := by
  induction l with
  | nil => rfl
  | cons n l ih => simp only [cellsL, EK.cells, List.map_cons, List.cons_append, List.nil_append, ih]
theorem lst_slA (e : EK) (l : List e.ty) : Le (.lst e l) (slA e l) := by
  unfold slA
  split
  · intro E v h
    cases h with
    | lst h =>
      rename_i l
      have hcs := cells_int l
      generalize hN : List.length l = N at h
      cases h with
      | @sl0 _ a cap =>
        have : l = [] := List.eq_nil_of_length_eq_zero hN
        subst this
        exact .sq (.inl rfl) (Nat.zero_le _)
      | @sl _ _ b o cap vals hs hM hc hv hr =>
        rw [hcs] at hv hr
        have : Rd E (.sq l) (.slice (some ⟨b, o, none⟩) l.length cap) := .sq (.inr ⟨b, o, rfl, hM, fun i hi => by
          have h1 := hv i (by simpa using hi)
          have h2 := hr i (by simpa using hi)
          have h3 : (l.map fun n => AV.lit (.int .i64 n)).getD i .junk = .lit (.int .i64 (l.getD i 0)) := by simp [List.getD, hi]
          rw [h3] at h2
          rw [h1, h2.lit_inv]⟩) (by omega)
        rw [hN] at this; exact this
  · exact Le.refl _

theorem castL_spec {k k' : EK} {l : List k.ty} : Spec (castL k k' l) fun l' => l'.length = l.length ∧ cellsL k' l' = cellsL k l ∧ Le (.lst k l) (.lst k' l') := by
  unfold castL
  split
  · rename_i h
    subst h
    exact Spec.pure' ⟨rfl, rfl, Le.refl _⟩
  · exact Spec.fail
theorem decN_spec {k : EK} (hk : ∀ cs, Spec (k.dec cs) fun x => LeL cs (k.cells x)) : ∀ n cs, Spec (decN k.dec k.sz n cs) fun l => l.length = n ∧ LeL cs (cellsL k l)
  | 0, cs => by
    unfold decN
    split
    · exact Spec.pure' ⟨rfl, .nil⟩
    · exact Spec.fail
  | n + 1, cs => by
    unfold decN
    refine Spec.bind ((hk _).mono fun x hx => Spec.bind ((decN_spec hk n _).mono fun l hl => Spec.pure' ⟨by simp [hl.1], ?_⟩))
    have := hx.append hl.2
    rw [List.take_append_drop] at this
    exact this
theorem decWhole_spec {s d : AV} : Spec (decWhole s d) fun z => LeL [s, d] (EK.cells .whole z) := by
  unfold decWhole
  refine Spec.bind (Spec.ofOpt fun b hb => ?_)
  split
  · refine Spec.bind (Spec.tellD boolEq_eq fun ht => Spec.pure' ?_)
    exact .cons (fun E u hu => by rw [hu.asB hb, ht]; exact .lit _) (.cons (Le.refl _) .nil)
  · refine Spec.bind (Spec.ofOpt fun q hq => ?_)
    split
    · refine Spec.bind (Spec.tellD boolEq_eq fun ht => Spec.pure' ?_)
      refine .cons (fun E u hu => by rw [hu.asB hb, ht]; exact .lit _) (.cons (fun E u hu => ?_) .nil)
      obtain ⟨a, cap, rfl, hc, hi⟩ := ints_inv hq hu
      have : Rd E (.wd 0) (.slice a (digs (0 : Int).natAbs).length cap) := .wd (.inl rfl) (Nat.zero_le _)
      exact this
    · exact Spec.fail
theorem dec_spec : ∀ (k : EK) (cs : List AV), Spec (k.dec cs) fun x => LeL cs (k.cells x)
  | .int ik, cs => by
    unfold EK.dec
    split
    · split
      · rename_i h; subst h; exact Spec.pure' (LeL.refl _)
      · exact Spec.fail
    · exact Spec.fail
  | .bool, cs => by
    unfold EK.dec
    split
    · exact Spec.ofOpt fun b hb => .cons (fun E u hu => by rw [hu.asB hb]; exact .lit _) .nil
    · exact Spec.fail
  | .str, cs => by
    unfold EK.dec
    split
    · exact Spec.pure' (LeL.refl _)
    · exact Spec.fail
  | .whole, cs => by
    unfold EK.dec
    split
    · exact decWhole_spec
    · exact Spec.fail
  | .un, cs => by
    unfold EK.dec
    split
    · exact Spec.pure' .nil
    · exact Spec.fail
  | .pr a b, cs => by
    unfold EK.dec
    refine Spec.bind ((dec_spec a _).mono fun x hx => Spec.bind ((dec_spec b _).mono fun y hy => Spec.pure' ?_))
    have := hx.append hy
    rw [List.take_append_drop] at this
    exact this
  | .sl e, cs => by
    unfold EK.dec
    split
    · split
      · refine castL_spec.mono fun l' h => .cons (h.2.2.trans (lst_slA _ _)) .nil
      · refine (decN_spec (dec_spec e) _ _).mono fun l h => .cons (Le.trans (fun E v hv => ?_) (lst_slA _ _)) .nil
        have := Le.sl h.2 E v hv
        rw [← h.1] at this
        exact .lst this
      · refine Spec.pure' (.cons (Le.trans (fun E v hv => ?_) (lst_slA _ _)) .nil)
        rw [hv.lit_inv]
        exact .lst .sl0
      · split
        · refine Spec.ofOpt fun l hl => .cons (fun E v hv => ?_) .nil
          obtain ⟨a, cap, rfl, hc, hi⟩ := ints_inv hl hv
          exact .sq hi hc
        · exact Spec.fail
    · exact Spec.fail
theorem dataL_spec {k : EK} {x : AV} (hk : k ≠ .int .i64) : Spec (dataL k x) fun l => Le x (.lst k l) := by
  refine (dec_spec (.sl k) [x]).mono fun l h => ?_
  have e : EK.cells (.sl k) l = [.lst k l] := by
    unfold EK.cells slA
    split
    · exact absurd rfl hk
    · rfl
  rw [e] at h
  exact h.getD 0
theorem CR.le {E : Env} {cs ds : List AV} {arr : Array Value} (h : CR E cs arr) (k : LeL cs ds) : CR E ds arr :=
  ⟨by rw [← k.length]; exact h.1, fun i hi => k.getD i _ _ (h.2 i (by rw [k.length]; exact hi))⟩
end Go.Ev
end

section
namespace Go.Ev
open Go.RowKit (Below)
section
variable {g : Cfg} {n0 : Nat → Prop} {st : St} {o : Oper}

theorem elemK_spec {t e : TypeId} {k : EK} (h : elemK g t = some (e, k)) : ∃ i d z, g.P.info? t = some i ∧ g.P.underlying t = some (.slice e) ∧ i.zero = some z ∧ d = (.slice e : TypeDesc) ∧ k ≠ .int .i64 := by
  unfold elemK at h
  split at h
  · rename_i ti hti
    obtain ⟨i, d, z, h1, h2, h3, rfl⟩ := tiOf_spec hti
    split at h
    · rename_i e' htk
      have hd' := tk_slice htk
      subst hd'
      split at h
      · split at h
        · cases h
        · rename_i hne
          cases h
          exact ⟨i, _, z, h1, h2, h3, rfl, hne⟩
      · cases h
    · cases h
  · cases h

theorem rd_alloc_len {w : World} {c : Array Value} {e : TypeId} : w.heap.size < (w.alloc (.cells c e)).heap.size := by simp

/-- Elements that all read as data: a row of the kind. -/
theorem fits_lst {E : Env} {k : EK} {cs : List AV} {l : List k.ty} {arr : Array Value} {b : Bool} (h : CR E cs arr) (hl : LeL cs (cellsL k l)) : RowFits E (.lst k l b) arr :=
  ⟨by have := hl.length; have := h.1; omega, (h.le hl).2⟩

theorem slA_cell (e : EK) (l : List e.ty) : isCell (slA e l) = true := by
  unfold slA
  split <;> rfl
theorem cell_isCell : ∀ (k : EK) (x : k.ty), (k.cells x).all isCell = true
  | .int _, _ => rfl
  | .bool, _ => rfl
  | .str, _ => rfl
  | .whole, _ => rfl
  | .un, _ => rfl
  | .pr a b, p => by
    unfold EK.cells
    rw [List.all_append, cell_isCell a, cell_isCell b]; rfl
  | .sl e, l => by
    unfold EK.cells
    rw [List.all_cons, slA_cell]; rfl
theorem cells_isCell (k : EK) : ∀ l : List k.ty, (cellsL k l).all isCell = true
  | [] => rfl
  | x :: l => by
    unfold cellsL
    rw [List.all_append, cell_isCell k x, cells_isCell k l]; rfl

/-- A row stands for what it stood for in other words. -/
theorem stp_retype {B : Nat} {M0 : Nat → Prop} {rows : List Row} {rho : List Nat} {wr : List Nat} {w : World} (hm : Mem B M0 rows rho w) {r : Nat} {row row' : Row} (hrow : rows[r]? = some row)
    (hl : row'.live = row.live) (ha : row'.alive = row.alive) (hs : ∀ (E : Env) (b : Nat), RowAt E row b → RowAt E row' b) : Stp B M0 rows rho wr w (rows.set r row') rho wr w := by
  have hrl : r < rows.length := (List.getElem?_eq_some_iff.1 hrow).1
  have hM : ∀ k, ¬ Mset M0 rows rho k → ¬ Mset M0 (rows.set r row') rho k := by
    rintro k hk (h0 | ⟨s, q, h1, h2, h3⟩)
    · exact hk (.inl h0)
    · rcases set_rows hrl h1 with ⟨rfl, rfl⟩ | ⟨_, k1⟩
      · exact hk (.inr ⟨s, row, hrow, by rw [← hl]; exact h2, h3⟩)
      · exact hk (.inr ⟨s, q, k1, h2, h3⟩)
  have hext : Ext (envOf M0 rows rho w) (envOf M0 (rows.set r row') rho w) := ⟨Nat.le_refl _, fun k _ hk => ⟨rfl, hM k hk⟩, fun _ _ h => h, fun _ _ => rfl⟩
  refine ⟨hext, ⟨hm.hB, hm.m0, by simp [hm.len], hm.bnd, fun s q k h1 h2 => ?_, fun s s' q q' k h1 h2 a1 a2 b1 b2 => ?_⟩, Below.refl _ _, Nat.le_refl _, fun s hs _ => hs, fun s q k _ h1 h2 h3 _ => ⟨rfl, h3, ?_⟩⟩
  · rcases set_rows hrl h1 with ⟨rfl, rfl⟩ | ⟨_, k1⟩
    · exact hs _ _ ((hm.row s row k hrow h2).ext hext rfl)
    · exact (hm.row s q k k1 h2).ext hext rfl
  · have key : ∀ (s : Nat) (q : Row), (rows.set r row')[s]? = some q → q.alive = true → ∃ q0 : Row, rows[s]? = some q0 ∧ q0.alive = true := by
      intro s q h hal
      rcases set_rows hrl h with ⟨rfl, rfl⟩ | ⟨_, k1⟩
      · exact ⟨row, hrow, by rw [← ha]; exact hal⟩
      · exact ⟨q, k1, hal⟩
    obtain ⟨q0, g1, g2⟩ := key s q h1 a1
    obtain ⟨q1, g3, g4⟩ := key s' q' h2 a2
    exact hm.inj s s' q0 q1 k g1 g3 g2 g4 b1 b2
  · by_cases hsr : r = s
    · subst hsr
      rw [hrow] at h1
      cases h1
      exact ⟨row', by simp [hrl], by rw [ha]; exact h2⟩
    · exact ⟨q, by rw [List.getElem?_set_ne hsr]; exact h1, h2⟩

theorem appendT_run (hg : g.OK) {c : Call} {x y : Operand} {t t1 : TypeId} (hold : Spec (appendA g st.rows st.wr t t1 (evalO st.tm x) (evalO st.tm y)) fun r => RunOK g.P st o r)
    (ho : o.op = .call c) (hb : c.callee = .builtin .append) (hx : c.args.toList = [x, y]) (ht : c.argTypes.toList = [t, t1]) :
    Spec (appendT g st.rows st.wr t t1 (evalO st.tm x) (evalO st.tm y)) fun r => RunOK g.P st o r := by
  unfold appendT
  split
  · exact hold
  · rename_i e k hek
    obtain ⟨i, d, z, hi, hd, hz, _, hk⟩ := elemK_spec hek
    split
    · exact Spec.fail
    · rename_i htt
      have htt' : t = t1 := by simpa using htt
      subst htt'
      refine runOK_spec fun B M0 rho a w hm hf => ?_
      have h1 : c.args = #[x, y] := by rw [← Array.toArray_toList (xs := c.args), hx]
      have h2 : c.argTypes = #[t, t] := by rw [← Array.toArray_toList (xs := c.argTypes), ht]
      have exec : ∀ {v : Value} {w' : World}, (Builtin.append_ #[t, t] o.type #[a.eval x, a.eval y]).run g.P w = .ok v w' → (execOp a.eval o).run g.P w = .ok (.value v) w' := by
        intro v w' h
        rw [builtin_exec ho hb, h1, h2]
        simp only [builtin, Sem.run_bind, List.map_toArray, List.map_cons, List.map_nil, h, Result.andThen_ok, Sem.run_pure]
      refine Spec.bind (ty_spec hg fun i2 d2 z2 hi2 hd2 hz2 => ?_)
      dsimp only
      split
      · exact Spec.fail
      · rename_i hsz
        have hpos : 0 < i2.size := by omega
        have hsk : i2.size = k.sz := by
          cases Nat.decEq i2.size k.sz with
          | isTrue h => exact h
          | isFalse h => exact absurd (.inr (.inr h)) hsz
        have hzs : z2.cells.size = i2.size := by
          cases Nat.decEq z2.cells.toList.length i2.size with
          | isTrue h => simpa using h
          | isFalse h => exact absurd (.inr (.inl h)) hsz
        refine Spec.bind (Spec.ofOpt fun p hp => ?_)
        obtain ⟨x1, rows1, ps⟩ := p
        dsimp only
        refine Spec.bind (Spec.tellAll fun hps => ?_)
        obtain ⟨hs0, hy1⟩ := (frz_ok 40).1 _ _ _ _ _ hp hps B M0 rho st.wr w _ hm (hf.eval y)
        have hx1 := (hf.eval x).ext hs0.ext
        refine Spec.bind ((dataL_spec hk).mono fun xs hxs => ?_)
        have hy2 := hxs _ _ hy1
        have hel : elemsN rows1 i2.size (.lst k xs) = some (xs.length, .inl (cellsL k xs)) := by simp [elemsN, hsk]
        have hlen : ElLen (.inl (cellsL k xs)) xs.length i2.size := by
          show (cellsL k xs).length = xs.length * i2.size
          rw [hsk]; exact cellsL_length k xs
        split
        · -- onto nil
          rename_i hs
          have hsv : a.eval x = .slice none 0 0 := by have := hf.eval x; rw [hs] at this; exact this.lit_inv
          refine Spec.bind (Spec.chk fun c1 => Spec.bind (Spec.chk fun c2 => Spec.bind (Spec.chk fun c3 => Spec.pure' ?_)))
          simp only [decide_eq_true_eq] at c1 c2 c3
          obtain ⟨w', rho', v, k1, k2, k3⟩ := append_nil_sem (wr := st.wr) (tt := o.type) hs0.mem hd hi2 hz2 hzs hel hy2 c1 c2 c3 hlen
          have hst := hs0.trans k2
          have hrow : (rows1 ++ [rowEl (.inl (cellsL k xs))])[rows1.length]? = some (.flat (cellsL k xs) true) := by simp [rowEl]
          have hret := stp_retype (wr := st.wr) (row' := .lst k xs true) hst.mem hrow rfl rfl (fun E b hat => hat)
          have hset : (rows1 ++ [rowEl (.inl (cellsL k xs))]).set rows1.length (.lst k xs true) = rows1 ++ [.lst k xs true] := by
            rw [List.set_append_right _ _ (Nat.le_refl _)]; simp
          rw [hset] at hret
          exact ⟨_, _, _, _, exec (by rw [hsv]; exact k1), .inl rfl, hst.trans hret, k3.ext hret.ext⟩
        · -- onto a row of one's own
          rename_i r n sz hs
          have hxv := hx1
          rw [hs] at hxv
          refine Spec.bind (Spec.chk fun c1 => Spec.bind (Spec.chk fun c2 => ?_))
          simp only [decide_eq_true_eq] at c1 c2
          split
          · rename_i k' l hrow
            split
            · rename_i hsz2
              refine Spec.bind (Spec.chk fun c3 => ?_)
              simp only [decide_eq_true_eq] at c3
              refine Spec.bind (castL_spec.mono fun l' hl' => Spec.pure' ?_)
              obtain ⟨g1, g2, _⟩ := hl'
              have hl1 : l'.length = n := by rw [g1]; simp; omega
              have hrowf := row_of_getD hrow (by simp)
              have hkk : n * k.sz = n * k'.sz := by
                have e1 := cellsL_length k l'
                have e2 := cellsL_length k' (l.take n)
                rw [g2, e2] at e1
                rw [hl1] at e1
                have : (l.take n).length = n := by simp; omega
                rw [this] at e1; omega
              obtain ⟨w', rho', v, k1, k2, k3⟩ := append_own_sem (wr := st.wr) (tt := o.type) hs0.mem hd hi2 hz2 hzs hel hy2 hxv c1 c2 (row' := .lst k (l' ++ xs) true) hrowf rfl rfl hsz2 hlen (fun E cc news hfc hel => by
                have hfl : RowFits E (.flat (cellsL k' l) true) cc := hfc
                have hbase := cellsL_length k' l
                have hmul : n * k'.sz ≤ l.length * k'.sz := Nat.mul_le_mul_right _ c3
                refine ⟨by have := hfl.1; rw [hsk]; omega, fun arr j1 j2 j3 => ?_⟩
                have := join_flat hfl (k := n * i2.size) (by rw [hsk]; omega) hel j1 j2 j3
                have e3 : (cellsL k' l).take (n * i2.size) ++ cellsL k xs = cellsL k (l' ++ xs) := by
                  rw [cellsL_append, g2, cellsL_take, hsk, hkk]
                rw [e3] at this
                exact this) (fun E news hel => cells_one (arr := news.toArray) hel (cells_isCell k xs))
              exact ⟨_, _, _, _, exec k1, .inl rfl, hs0.trans k2, k3⟩
            · exact Spec.fail
          · exact Spec.fail
        · exact Spec.fail

theorem makeT_run (hg : g.OK) {t : TypeId} {l c : Operand} (hold : Spec (made st.wr (makeSliceA g st.rows t (evalO st.tm l) (evalO st.tm c))) fun r => RunOK g.P st o r) (ho : o.op = .makeSlice t l c) :
    Spec (made st.wr (makeT g st.rows t (evalO st.tm l) (evalO st.tm c))) fun r => RunOK g.P st o r := by
  unfold makeT
  split
  · exact hold
  · rename_i e k hek
    obtain ⟨i, d, z, hi, hd, hz, _, hk⟩ := elemK_spec hek
    refine runOK_spec fun B M0 rho a w hm hf => made_spec ?_
    refine Spec.bind (ty_spec hg fun i2 d2 z2 hi2 hd2 hz2 => ?_)
    refine Spec.bind (Spec.ofOpt fun nl hnl => Spec.bind (Spec.ofOpt fun nc hnc => ?_))
    refine Spec.bind (Spec.chk fun c1 => Spec.bind (Spec.chk fun c2 => Spec.bind (Spec.chk fun c3 => Spec.bind (Spec.chk fun c4 => ?_))))
    simp only [decide_eq_true_eq] at c1 c2 c3 c4
    obtain ⟨kl, hkl⟩ := (hf.eval l).asI hnl
    obtain ⟨kc, hkc⟩ := (hf.eval c).asI hnc
    have wl : IntKind.i64.wrap nl = nl := inR_wrap (by simp [inR, IntKind.min, IntKind.max, IntKind.signed, IntKind.bits]; omega)
    have wc : IntKind.i64.wrap nc = nc := inR_wrap (by simp [inR, IntKind.min, IntKind.max, IntKind.signed, IntKind.bits]; omega)
    have hp48 : (2 : Int) ^ 48 = 281474976710656 := by decide
    dsimp only
    split
    · exact Spec.fail
    · rename_i hsz
      have hpos : 0 < i2.size := by omega
      have hsk : i2.size = k.sz := by
        cases Nat.decEq i2.size k.sz with
        | isTrue h => exact h
        | isFalse h => exact absurd (.inr (.inr h)) hsz
      have hzs : z2.cells.size = i2.size := by
        cases Nat.decEq z2.cells.toList.length i2.size with
        | isTrue h => simpa using h
        | isFalse h => exact absurd (.inr (.inl h)) hsz
      have hrun : (Instr.makeSlice t (a.eval l) (a.eval c)).run g.P w =
          .ok (.slice (some ⟨w.heap.size, 0, none⟩) nl.toNat nc.toNat) (w.alloc (.cells ((Array.range (nc.toNat * i2.size)).map fun (k : Nat) => z2.cells[k % z2.cells.size]!) e)) := by
        have h1 : ¬ ((decide (nc < 0) || decide ((i2.bytes : Int) * nc > 2 ^ 48) || decide (nl < 0) || decide (nl > nc)) = true) := by
          simp only [Bool.or_eq_true, decide_eq_true_eq, hp48]; omega
        simp only [Instr.makeSlice, Sem.run_bind, run_underlying hd, Result.andThen_ok, asInt, hkl, hkc, asIntOf, Sem.run_pure, run_typeInfo' hi2, wl, wc]
        rw [if_neg h1]
        simp only [Sem.run_bind, run_askRoom, Result.andThen_ok, run_sizeOf' hi2]
        by_cases h0 : nc.toNat * i2.size = 0
        · simp only [h0, if_true, Sem.run_bind, Sem.run_pure, Result.andThen_ok, newRow, run_newObj, World.alloc_eq]
          have hz : ∀ (f g : Nat → Value), (Array.range 0).map f = (Array.range 0).map g := fun f g => by apply Array.ext <;> simp
          rw [hz _ (fun k => z2.cells[k % z2.cells.size]!)]
        · simp only [if_neg h0, Sem.run_bind, run_zeroValue' hi2 hz2, Result.andThen_ok, Sem.run_pure, newRow, run_newObj, World.alloc_eq]
      have hcl : nl.toNat ≤ nc.toNat := by omega
      refine Spec.bind ((dec_spec k _).mono fun zx hzx => Spec.pure' ?_)
      have hcr := repl_cr (E := envOf M0 st.rows rho w) z2 nc.toNat (by omega)
      have hmul : nl.toNat * z2.cells.size ≤ nc.toNat * z2.cells.size := Nat.mul_le_mul_right _ hcl
      have hrep : ∀ n, LeL (repl n (z2.cells.toList.map .lit)) (cellsL k (List.replicate n zx)) := by
        intro n
        induction n with
        | zero => exact .nil
        | succ n ih => simp only [repl, List.replicate_succ, cellsL]; exact hzx.append ih
      have hfit0 : RowFits (envOf M0 st.rows rho w) (.flat (repl nl.toNat (z2.cells.toList.map .lit)) true) ((Array.range (nc.toNat * z2.cells.size)).map fun (k : Nat) => z2.cells[k % z2.cells.size]!) := by
        refine ⟨by simp [repl_length, hmul], fun k hk => ?_⟩
        have hk' : k < nl.toNat * z2.cells.size := by simpa [repl_length] using hk
        have := hcr.2 k (by simp [repl_length]; omega)
        rw [repl_get _ (by simp; omega) _ _ (by simpa using hk')]
        rw [repl_get _ (by simp; omega) _ _ (by simp; omega)] at this
        exact this
      have hfit : RowFits (envOf M0 st.rows rho w) (.lst k (List.replicate nl.toNat zx) true) ((Array.range (nc.toNat * z2.cells.size)).map fun (k : Nat) => z2.cells[k % z2.cells.size]!) :=
        ⟨by have := (hrep nl.toNat).length; have := hfit0.1; omega, fun i hi => (hrep nl.toNat).getD i _ _ (hfit0.2 i (by rw [(hrep nl.toNat).length]; exact hi))⟩
      rw [hzs] at hfit
      rw [hzs] at hrun
      have hs := stp_new (wr := st.wr) (e := e) hm hfit
      refine ⟨_, _, _, _, by simp only [execOp, ho, Sem.run_bind, hrun, Result.andThen_ok, Sem.run_pure], .inl rfl, hs, .own (rho_new hm.len) ?_ hcl ?_⟩
      · show w.heap.size < (w.alloc _).heap.size; simp
      · show 0 + nc.toNat * k.sz ≤ bszOf (w.alloc _).heap w.heap.size
        rw [bszOf_new]; simp [hsk]

theorem fillA_length {place : Nat → Option (Nat × Nat)} : ∀ {ps : List (Nat × AV)} {l0 cs : List AV}, fillA place l0 ps = some cs → cs.length = l0.length
  | [], l0, cs, h => by cases h; rfl
  | (j, x) :: ps, l0, cs, h => by
    unfold fillA at h
    split at h
    · split at h
      · rename_i hh
        rw [fillA_length h, over_length hh.2]
      · cases h
    · cases h
theorem buildT_run (hg : g.OK) {t : TypeId} {n : Nat} {parts : Array (Nat × Operand)} (hold : Spec (made st.wr (buildSliceA g st.rows t n (pairs st.tm parts.toList))) fun r => RunOK g.P st o r) (ho : o.op = .buildSlice t n parts) :
    Spec (made st.wr (buildT g st.rows t n (pairs st.tm parts.toList))) fun r => RunOK g.P st o r := by
  unfold buildT
  split
  · exact hold
  · rename_i e k hek
    obtain ⟨i, d, z, hi, hd, hz, _, hk⟩ := elemK_spec hek
    refine runOK_spec fun B M0 rho a w hm hf => made_spec ?_
    obtain ⟨p1, p2⟩ := pairs_spec hf parts.toList
    have htl : (parts.map fun (i, x) => (i, a.eval x)).toList = parts.toList.map fun (i, x) => (i, a.eval x) := by simp
    refine Spec.bind (ty_spec hg fun i2 d2 z2 hi2 hd2 hz2 => ?_)
    dsimp only
    split
    · exact Spec.fail
    · rename_i hc
      have c1 : 0 < i2.size := by omega
      have c2 : ¬ (16777216 < n * i2.size) := by omega
      have c3 : z2.cells.toList.length = i2.size := by
        cases Nat.decEq z2.cells.toList.length i2.size with
        | isTrue h => exact h
        | isFalse h => exact absurd (.inr (.inr (.inl h))) hc
      have hsk : i2.size = k.sz := by
        cases Nat.decEq i2.size k.sz with
        | isTrue h => exact h
        | isFalse h => exact absurd (.inr (.inr (.inr h))) hc
      have c3' : z2.cells.size = i2.size := by simpa using c3
      refine Spec.bind (Spec.ofOpt fun cs hcs => ?_)
      have hz0 := repl_cr (E := envOf M0 st.rows rho w) z2 n (by omega)
      rw [c3'] at hz0
      obtain ⟨arr', f1, f2⟩ := fill_rd hcs hz0 p1 p2
      refine Spec.bind (Spec.ofOpt fun p hp => ?_)
      obtain ⟨cs', rows', ps⟩ := p
      dsimp only
      refine Spec.bind (Spec.tellAll fun hps => ?_)
      obtain ⟨hs0, hl0, hr0⟩ := (frz_ok 40).2 _ _ _ _ _ hp hps B M0 rho st.wr w (fun i => arr'.getD i undef) hm f2.2
      refine Spec.bind ((decN_spec (dec_spec k) n cs').mono fun xs hxs => Spec.pure' ?_)
      have hcr : CR (envOf M0 rows' rho w) cs' arr' := ⟨by rw [hl0]; exact f2.1, hr0⟩
      have r1 : RowFits (envOf M0 rows' rho w) (.lst k xs true) arr' := fits_lst hcr hxs.2
      have hs := hs0.trans (stp_new (wr := st.wr) (e := e) hs0.mem r1)
      have hsz' : arr'.size = n * i2.size := by
        have h1 := f2.1
        have h3 := fillA_length hcs
        rw [← h1, h3, repl_length]; simp [c3']
      refine ⟨_, _, _, .slice (some ⟨w.heap.size, 0, none⟩) n n, ?_, .inl rfl, hs, .own (rho_new hs0.mem.len) (by show w.heap.size < (w.alloc (.cells arr' e)).heap.size; simp) (Nat.le_refl _) ?_⟩
      · have hr : (Instr.buildSlice t n (parts.map fun (i, x) => (i, a.eval x))).run g.P w = .ok (.slice (some ⟨w.heap.size, 0, none⟩) n n) (w.alloc (.cells arr' e)) := by
          unfold Instr.buildSlice
          simp only [Sem.run_bind, run_underlying hd, Result.andThen_ok, run_sizeOf' hi2]
          have h24 : ¬ (n * i2.size > 2 ^ 24) := by have : (2 : Nat) ^ 24 = 16777216 := by decide
                                                    omega
          simp only [if_neg h24]
          by_cases h0 : n * i2.size = 0
          · have hn0 : (Array.range 0).map (fun (k : Nat) => z2.cells[k % i2.size]!) = (Array.range 0).map (fun (k : Nat) => (#[] : Array Value)[k % (#[] : Array Value).size]!) := by simp
            rw [h0] at f1
            simp only [h0, if_true, Sem.run_bind, Sem.run_pure, Result.andThen_ok]
            rw [hn0] at f1
            rw [htl, f1]
            simp only [newRow, Sem.run_bind, run_newObj, Result.andThen_ok, Sem.run_pure, World.alloc_eq]
          · simp only [if_neg h0, Sem.run_bind, run_zeroValue' hi2 hz2, Result.andThen_ok, Sem.run_pure, c3']
            rw [htl, f1]
            simp only [newRow, Sem.run_bind, run_newObj, Result.andThen_ok, Sem.run_pure, World.alloc_eq]
        simp only [execOp, ho, Sem.run_bind, hr, Result.andThen_ok, Sem.run_pure]
      · show 0 + n * k.sz ≤ bszOf (w.alloc (.cells arr' e)).heap w.heap.size
        rw [bszOf_new, ← hsk]; omega

theorem storeT_run (hg : g.OK) {t : TypeId} {a v : Operand}
    (hold : Spec (do let ti ← ty g t; let rows ← storeA st.rows ti (evalO st.tm a) (evalO st.tm v); M.pure (⟨.lit undef, rows, refRow (evalO st.tm a) :: st.wr⟩ : Out)) fun r => RunOK g.P st o r)
    (ho : o.op = .store t a v) :
    Spec (do let ti ← ty g t; let rows ← storeT st.rows ti (evalO st.tm a) (evalO st.tm v); M.pure (⟨.lit undef, rows, refRow (evalO st.tm a) :: st.wr⟩ : Out)) fun r => RunOK g.P st o r := by
  by_cases hrel : ∃ r i sz fo, evalO st.tm a = .rel r i sz fo
  · obtain ⟨r, ix, sz, fo, hx⟩ := hrel
    refine runOK_spec fun B M0 rho act w hm hf => ?_
    refine Spec.bind (ty_spec hg fun i d z hi hd hz => ?_)
    have exec : ∀ (ad : Addr) (w' : World), act.eval a = .pointer (some ad) → (storeVar t ad (act.eval v)).run g.P w = .ok () w' → (execOp act.eval o).run g.P w = .ok .skip w' := by
      intro ad w' he hr
      simp only [execOp, ho, Instr.storeAt, he, Instr.sureAddr, Sem.run_bind, Sem.run_pure, Result.andThen_ok, hr]
    rw [hx]
    unfold storeT
    dsimp only
    refine Spec.bind (Spec.bind (Spec.ofOpt fun vc hvc => Spec.bind (Spec.ofOpt fun p hp => ?_)))
    obtain ⟨vc', rows', ps⟩ := p
    dsimp only
    refine Spec.bind (Spec.tellAll fun hps => ?_)
    have hcr0 := vcells_rd hvc (hf.eval v)
    obtain ⟨hs0, hl0, hr0⟩ := (frz_ok 40).2 _ _ _ _ _ hp hps B M0 rho st.wr w (fun i => (act.eval v).cells.getD i undef) hm hcr0.2
    have hcr : CR (envOf M0 rows' rho w) vc' (act.eval v).cells := ⟨by rw [hl0]; exact hcr0.1, hr0⟩
    have hax := hf.eval a
    rw [hx] at hax
    generalize heq : act.eval a = u at hax
    cases hax with
    | @rel _ _ _ _ b hr =>
      have hrho : rho[r]? = some b := hr
      split
      · rename_i k l hrow
        split
        · rename_i hc
          obtain ⟨hsz, c1, c2, c3⟩ := hc
          subst hsz
          have c1' : vc'.length = i.size := c1
          refine Spec.bind (Spec.chk fun hlt => ?_)
          have hlt' : ix < l.length := by simpa using hlt
          refine Spec.bind ((dec_spec k _).mono fun x hxd => Spec.pure' (Spec.pure' ?_))
          have hrows := row_of_getD hrow (by simp)
          obtain ⟨c, e, hb, hfit⟩ := hs0.mem.row r _ b hrows hrho
          have hcl := cellsL_length k l
          have hbound : (ix + 1) * k.sz ≤ l.length * k.sz := Nat.mul_le_mul_right _ hlt'
          rw [Nat.succ_mul] at hbound
          have hle : (ix * k.sz + fo) + vc'.length ≤ (cellsL k l).length := by omega
          have hsp := spliced c (act.eval v).cells.toList (ix * k.sz + fo) (by have := hcr.1; have := hfit.1; simp; omega)
          have hfo := fits_over (b := true) (cs := cellsL k l) hfit hcr hle
          have hfl : RowFits (envOf M0 rows' rho w) (.lst k (l.set ix x) true) (c.toList.take (ix * k.sz + fo) ++ (act.eval v).cells.toList ++ c.toList.drop (ix * k.sz + fo + (act.eval v).cells.toList.length)).toArray := by
            have hcx := cells_length k (l.getD ix k.dflt)
            have hA : over (cellsL k l) (ix * k.sz + fo) vc' = (cellsL k l).take (ix * k.sz) ++ over (k.cells (l.getD ix k.dflt)) fo vc' ++ (cellsL k l).drop (ix * k.sz + k.sz) := by
              have hmid : ((cellsL k l).drop (ix * k.sz)).take k.sz = k.cells (l.getD ix k.dflt) := by
                apply List.ext_getElem?
                intro j
                by_cases hj : j < k.sz
                · have h1 := cellsL_getD k l ix j hlt' hj
                  rw [List.getElem?_take, if_pos hj, List.getElem?_drop]
                  simp only [List.getD] at h1
                  have e1 : (cellsL k l)[ix * k.sz + j]? = some ((cellsL k l)[ix * k.sz + j]'(by omega)) := List.getElem?_eq_getElem _
                  have e2 : (k.cells (l[ix]?.getD k.dflt))[j]? = some ((k.cells (l[ix]?.getD k.dflt))[j]'(by rw [cells_length]; exact hj)) := List.getElem?_eq_getElem _
                  rw [e1, e2] at h1
                  simp only [List.getD]
                  rw [e1, e2]
                  exact congrArg some h1
                · rw [List.getElem?_take, if_neg hj, List.getElem?_eq_none (by rw [cells_length]; omega)]
              unfold over
              rw [← hmid]
              have e3 : (cellsL k l).take (ix * k.sz + fo) = (cellsL k l).take (ix * k.sz) ++ (((cellsL k l).drop (ix * k.sz)).take k.sz).take fo := by
                rw [List.take_take, Nat.min_eq_left (by omega), List.take_add]
              have e4 : (cellsL k l).drop (ix * k.sz + fo + vc'.length) = ((((cellsL k l).drop (ix * k.sz)).take k.sz).drop (fo + vc'.length)) ++ (cellsL k l).drop (ix * k.sz + k.sz) := by
                rw [List.drop_take, List.drop_drop]
                have : (cellsL k l).drop (ix * k.sz + k.sz) = ((cellsL k l).drop (ix * k.sz + (fo + vc'.length))).drop (k.sz - (fo + vc'.length)) := by rw [List.drop_drop]; congr 1; omega
                rw [this, List.take_append_drop, Nat.add_assoc]
              rw [e3, e4]
              simp only [List.append_assoc]
            have hB := cellsL_set k l ix x hlt'
            refine ⟨?_, fun j hj => ?_⟩
            · have h1 := hfo.1
              rw [hA] at h1
              rw [hB]
              have h2 := hxd.length
              simp only [List.length_append] at h1 ⊢
              omega
            · rw [hB] at hj ⊢
              have hLe : LeL (over (cellsL k l) (ix * k.sz + fo) vc') ((cellsL k l).take (ix * k.sz) ++ k.cells x ++ (cellsL k l).drop (ix * k.sz + k.sz)) := by
                rw [hA]; exact ((LeL.refl _).append hxd).append (LeL.refl _)
              exact hLe.getD j _ _ (hfo.2 j (by rw [hLe.length]; exact hj))
          have hs := stp_write (wr := st.wr) hs0.mem hrows rfl hrho hb hsp.1 rfl hfl
          refine ⟨.skip, _, rho, undef, exec ⟨b, ix * k.sz + fo, none⟩ _ heq ?_, .inr ⟨rfl, rfl⟩, hs0.trans hs, .lit _⟩
          unfold storeVar
          have hsz2 : (act.eval v).cells.size = i.size := by have := hcr.1; omega
          simp only [Sem.run_bind, run_sizeOf' hi, Result.andThen_ok, hsz2, ne_eq, not_true_eq_false, if_false]
          have hst := run_storeCells_at (P := g.P) b (ix * k.sz + fo) e (act.eval v).cells.toList 0 c w hb (by have := hcr.1; have := hfit.1; simp; omega) (cells_one hcr c3)
          simpa using hst
        · exact Spec.fail
      · exact Spec.fail
  · have e : ∀ ti, storeT st.rows ti (evalO st.tm a) (evalO st.tm v) = storeA st.rows ti (evalO st.tm a) (evalO st.tm v) := by
      intro ti
      unfold storeT
      split
      · rename_i h; exact absurd ⟨_, _, _, _, h⟩ hrel
      · rfl
    have e2 : (do let ti ← ty g t; let rows ← storeT st.rows ti (evalO st.tm a) (evalO st.tm v); M.pure (⟨.lit undef, rows, refRow (evalO st.tm a) :: st.wr⟩ : Out)) =
        (do let ti ← ty g t; let rows ← storeA st.rows ti (evalO st.tm a) (evalO st.tm v); M.pure (⟨.lit undef, rows, refRow (evalO st.tm a) :: st.wr⟩ : Out)) := by
      congr 1; funext ti; rw [e ti]
    rw [e2]
    exact hold
end
end Go.Ev
end

section
namespace Go.Ev
open Go.RowKit (Below)
section
variable {g : Cfg} {n0 : Nat → Prop} {st : St} {o : Oper}

/-- A pure operation's outcome. -/
def PureOut (P : Program) (n0 : Nat → Prop) (st : St) (o : Oper) (r : Out) : Prop := r.rows = st.rows ∧ r.wr = st.wr ∧ PureOK P n0 st o r.v

theorem same_pure {m : M AV} (h : Spec m fun v => PureOK g.P n0 st o v) : Spec (same st.rows st.wr m) fun r => PureOut g.P n0 st o r :=
  same_spec (h.mono fun _ hv => ⟨rfl, rfl, hv⟩)

theorem PureOut.op {P : Program} {n0 : Nat → Prop} {r : Out} (h : PureOut P n0 st o r) : OpOK P st o r := by
  obtain ⟨h1, h2, h3⟩ := h
  obtain ⟨v, rows, wr⟩ := r
  simp only at h1 h2 h3
  subst h1; subst h2
  exact h3.run.op

theorem callOp_spec (hg : g.OK) {run : Runner} (hrun : RunnerOK g.P run) {c : Call} {f : Operand} (ho : o.op = .call c) (hc : c.callee = .value f) {h : FuncId} {cs : List AV} (hf0 : evalO st.tm f = .fn h cs) :
    Spec (callA g run st.rows st.wr h (c.args.toList.map (evalO st.tm) ++ cs)) fun r => OpOK g.P st o r := by
  intro cc s x s' ps he hps
  have hcall := call_spec hg hrun st.rows st.wr h (c.args.toList.map (evalO st.tm) ++ cs) cc s x s' ps he hps
  have hlk : ∃ fn, fnOf g.P h = some fn := by
    cases hl : fnOf g.P h with
    | some fn => exact ⟨fn, rfl⟩
    | none =>
      exfalso
      unfold callA at he
      have : (ofOpt 73 (fnOf g.P h) : M Func) = fail 73 := by rw [hl]; rfl
      rw [this] at he
      change M.bind _ _ cc s = _ at he
      simp [M.bind, fail] at he
  obtain ⟨fn, hfn⟩ := hlk
  obtain ⟨hF1, hF2, hF3⟩ := hg.F h fn hfn
  intro B M0 rho a w hm hf K Q hK
  have hfv := hf.eval f
  rw [hf0] at hfv
  generalize heq : a.eval f = u at hfv
  cases hfv with
  | @fn _ _ caps hl hr =>
    have hfr : Fa (envOf M0 st.rows rho w) (c.args.toList.map (evalO st.tm) ++ cs) (c.args.map a.eval ++ caps) := by
      refine ⟨by simp [hl], fun i hi => ?_⟩
      by_cases hia : i < c.args.size
      · have e1 : (c.args.toList.map (evalO st.tm) ++ cs).getD i .junk = evalO st.tm c.args[i] := by
          simp only [List.getD]; rw [List.getElem?_append_left (by simpa using hia)]; simp [hia]
        have e2 : (c.args.map a.eval ++ caps).getD i undef = a.eval c.args[i] := by
          rw [getD_eq, Array.getElem?_append_left (by simpa using hia)]; simp [hia]
        rw [e1, e2]; exact hf.eval _
      · have hi' : i - c.args.size < cs.length := by simp at hi; omega
        have e1 : (c.args.toList.map (evalO st.tm) ++ cs).getD i .junk = cs.getD (i - c.args.size) .junk := by
          simp only [List.getD]; rw [List.getElem?_append_right (by simpa using Nat.le_of_not_lt hia)]; simp
        have e2 : (c.args.map a.eval ++ caps).getD i undef = caps.getD (i - c.args.size) undef := by
          rw [getD_eq, getD_eq, Array.getElem?_append_right (by simpa using Nat.le_of_not_lt hia)]; simp
        rw [e1, e2]; exact hr _ hi'
    have hexec : (execOp a.eval o).run g.P w = .ok (.enter h (c.args.map a.eval ++ caps)) w := by
      simp only [execOp, ho, resolve, hc, heq, Deferred.ofValue, Sem.run_bind, Sem.run_pure, Result.andThen_ok, invoke]
      have := run_callFunc hF1 hF2 hF3 (c.args.map a.eval ++ caps) w
      simpa using this
    unfold Oper.wp
    rw [hexec]
    show Calls g.P h _ w _
    refine (hcall B M0 rho w _ hm hfr).mono ?_
    rintro e w' ⟨v, rfl, rho', hs, hv⟩
    exact hK v w' rho' hs hv

theorem op_pure_spec (hg : g.OK) {run : Runner} {n : Nat} {W : List Nat} (hp : pureOp n W st o = true) : Spec (opA g run st o) fun r => PureOut g.P (fun r => r < n ∧ r ∉ W) st o r := by
  obtain ⟨dst, op, type, pos, after, guard⟩ := o
  cases op <;> simp only [pureOp, Bool.false_eq_true] at hp <;> dsimp only [opA]
  case move x => exact same_pure (Spec.pure' (move_pure (.inl rfl)))
  case assign x => exact same_pure (Spec.pure' (move_pure (.inr rfl)))
  case pick c a b => exact same_pure (pick_pure rfl)
  case build t parts => exact same_pure (build_pure hg rfl)
  case load t a =>
    refine same_pure (loadT_pure hg rfl fun r hx => ?_)
    generalize evalO st.tm a = z at hp hx
    cases z <;> simp only [rowNamed, Option.some.injEq] at hx <;> first | (cases hx; done) | skip
    · subst hx; simpa using hp
    · subst hx; simpa using hp
  case nilCheck x => exact same_pure (nilCheck_pure rfl)
  case binOp op t x y t' => exact same_pure (binOp_pure hg rfl)
  case unOp op t x => exact same_pure (unOp_pure rfl)
  case convert a b x => exact same_pure (convert_pure hg rfl)
  case makeFunc fn first caps =>
    cases fn with
    | func f => exact same_pure (makeFunc_pure rfl)
    | _ => exact Spec.fail
  case slice t x lo hi mx =>
    refine same_pure ?_
    cases mx with
    | none => exact sliceT_pure hg rfl
    | some m => exact Spec.fail
  case fieldAddr t x f => exact same_pure (fieldAddr_pure hg rfl)
  case field t x f => exact same_pure (field_pure hg rfl)
  case indexAddr t x i => exact same_pure (indexT_pure hg rfl)
  case index t x i => exact same_pure (index_pure hg rfl)
  case extract x i => exact same_pure (extract_pure rfl)
  case call c =>
    obtain ⟨callee, args, argTypes⟩ := c
    cases callee with
    | value f => simp at hp
    | invoke r m => simp at hp
    | builtin b =>
      dsimp only
      split
      · rename_i x t h1 h2
        exact same_pure (len_pure hg rfl rfl h1 h2)
      · simp at hp
      · simp at hp
      · rename_i x y h1
        exact same_pure (minmax_pure (isMax := false) rfl rfl h1)
      · rename_i x y h1
        exact same_pure (minmax_pure (isMax := true) rfl rfl h1)
      · exact Spec.fail

theorem op_spec (hg : g.OK) {run : Runner} (hrun : RunnerOK g.P run) : Spec (opA g run st o) fun r => OpOK g.P st o r := by
  by_cases hp : ∃ n0, pureOp n0 [] st o = true
  · obtain ⟨n0, hp⟩ := hp
    exact (op_pure_spec hg hp).mono fun r h => h.op
  · obtain ⟨dst, op, type, pos, after, guard⟩ := o
    cases op <;> dsimp only [opA] <;> try (exact absurd ⟨0, rfl⟩ hp)
    case alloc t => exact (alloc_run hg rfl).mono fun r h => h.op
    case box t x => exact (box_run rfl).mono fun r h => h.op
    case buildSlice t n parts => exact (buildT_run hg (buildSlice_run hg rfl) rfl).mono fun r h => h.op
    case load t a =>
      have hn : ∀ r, rowNamed (evalO st.tm a) = some r → (fun _ : Nat => True) r := fun _ _ => trivial
      exact (same_pure (loadT_pure hg rfl hn)).mono fun r h => h.op
    case store t a v => exact (storeT_run hg (store_run hg rfl) rfl).mono fun r h => h.op
    case makeSlice t l c => exact (makeT_run hg (makeSlice_run hg rfl) rfl).mono fun r h => h.op
    case call c =>
      obtain ⟨callee, args, argTypes⟩ := c
      cases callee with
      | invoke r m => exact Spec.fail
      | value f =>
        dsimp only
        split
        · rename_i h cs hx
          exact callOp_spec hg hrun (c := ⟨.value f, args, argTypes⟩) rfl rfl hx
        · exact Spec.fail
      | builtin b =>
        dsimp only
        split
        · exact absurd ⟨0, rfl⟩ hp
        · rename_i x y t t1 h1 h2
          exact (appendT_run hg (append_run (c := ⟨.builtin .append, args, argTypes⟩) hg rfl rfl h1 h2) (c := ⟨.builtin .append, args, argTypes⟩) rfl rfl h1 h2).mono fun r h => h.op
        · rename_i x y t t1 h1 h2
          exact (copy_run hg rfl rfl h1 h2).mono fun r h => h.op
        · exact absurd ⟨0, rfl⟩ hp
        · exact absurd ⟨0, rfl⟩ hp
        · exact Spec.fail
    all_goals exact Spec.fail
end
end Go.Ev
end

section
namespace Go.Ev
open Go.RowKit (Below)

/-! ### An open order, with a condition on the world that may grow -/
section
variable {P : Program} {ops : Array Oper} {Q : Exit → Act → World → Prop} {md : Region.Mode}

def wpAnyG (P : Program) (md : Region.Mode) (ops : Array Oper) (Q : Exit → Act → World → Prop) : Nat → Array Bool → (World → Prop) → Act → World → Prop
  | 0, listed, _, a, w => Region.ready md ops listed = [] ∧ Q .normal a w
  | fuel + 1, listed, S, a, w =>
    (Region.ready md ops listed = [] → Q .normal a w) ∧
    ∀ i ∈ Region.ready md ops listed, wpOp P ops Q i (fun a' w' => ∃ S' : World → Prop, (∀ x, S' x → S x) ∧ S' w' ∧ wpAnyG P md ops Q fuel (listed.setIfInBounds i true) S' a' w') a w

theorem wpAny_of_G : ∀ (fuel : Nat) (listed : Array Bool) (S : World → Prop) (a : Act) (w : World), wpAnyG P md ops Q fuel listed S a w → wpAny P md ops Q fuel listed a w
  | 0, _, _, _, _, h => h
  | fuel + 1, _, _, _, _, h => ⟨h.1, fun i hi => wpOp_mono (fun a' w' ⟨S', _, _, h'⟩ => wpAny_of_G fuel _ S' a' w' h') (h.2 i hi)⟩

theorem YieldsIf.weaken {S S' : World → Prop} {o : Oper} {v : Value} {a : Act} (h : YieldsIf P ops S o v a) (hs : ∀ x, S' x → S x) : YieldsIf P ops S' o v a :=
  h.imp (fun ⟨hw, hv⟩ => ⟨hw, fun w hw' => hv w (hs w hw')⟩) id

theorem wpAnyG_first {i : Nat} {oi : Oper} {v : Value} (hi : ops[i]? = some oi) (hsel : ∀ (j : Nat) (o : Oper) cs b, ops[j]? = some o → o.op ≠ .select cs b)
    (hQ : ∀ c a w, Q (.panic c) (a.put oi.dst v) w → Q (.panic c) a w) :
    ∀ (fuel : Nat) (listed : Array Bool) (S : World → Prop) (a : Act) (w : World),
      (∀ j oj, ops[j]? = some oj → j ≠ i → listed.getD j true = false → (∀ e ∈ oj.after, Region.binds md e = true → e.on ≠ i) → oi.apart ops oj = true) →
      i ∈ Region.ready md ops listed → YieldsIf P ops S oi v a → S w →
      wpAnyG P md ops Q fuel (listed.setIfInBounds i true) S (a.put oi.dst v) w → wpAnyG P md ops Q (fuel + 1) listed S a w := by
  intro fuel
  induction fuel with
  | zero =>
    intro listed S a w _ hr hy hS H
    refine ⟨fun h => (by rw [h] at hr; cases hr), fun j hj => ?_⟩
    by_cases hji : j = i
    · subst hji; exact hy.wpOp hi hS ⟨S, fun _ h => h, hS, H⟩
    · have := ready_mono hj hji
      rw [H.1] at this
      cases this
  | succ fuel ih =>
    intro listed S a w hfree hr hy hS H
    refine ⟨fun h => (by rw [h] at hr; cases hr), fun j hj => ?_⟩
    by_cases hji : j = i
    · subst hji; exact hy.wpOp hi hS ⟨S, fun _ h => h, hS, H⟩
    · have h1 := H.2 j (ready_mono hj hji)
      obtain ⟨hjun, oj, hoj, hall⟩ := mem_ready.1 hj
      have hnot : ∀ e ∈ oj.after, Region.binds md e = true → e.on ≠ i := fun e he hb heq => by
        have h1 := hall e he hb
        have h0 := (mem_ready.1 hr).1
        rw [heq] at h1
        rcases Nat.lt_or_ge i listed.size with h' | h'
        · simp [h'] at h0 h1; rw [h0] at h1; cases h1
        · simp [Array.getElem?_eq_none h'] at h1
      have h2 := wpOp_putIf hoj (hfree j oj hoj hji hjun hnot) (fun cs b => hsel i oi cs b hi) (fun cs b => hsel j oj cs b hoj) hQ hy h1
      have hfree' : ∀ k ok, ops[k]? = some ok → k ≠ i → (listed.setIfInBounds j true).getD k true = false →
          (∀ e ∈ ok.after, Region.binds md e = true → e.on ≠ i) → oi.apart ops ok = true := fun k ok hk hki hun hno => by
        refine hfree k ok hk hki ?_ hno
        by_cases hjk : j = k
        · subst hjk; exact hjun
        · rw [getD_set_ne true hjk] at hun; exact hun
      refine wpOp_mono (fun a' w' h3 => ?_) h2
      obtain ⟨h3, S', hs1, hs2, h4⟩ := h3
      refine ⟨S', hs1, hs2, ih (listed.setIfInBounds j true) S' a' w' hfree' (ready_mono hr (Ne.symm hji)) (YieldsIf.weaken h3 hs1) hs2 ?_⟩
      rw [Array.setIfInBounds_comm _ _ hji]
      exact h4
end

section
variable {g : Cfg}

/-- A step of a region. -/
def StepOK (P : Program) (ops : Array Oper) (st : St) (o : Oper) (st' : St) : Prop :=
  ∀ B M0 rho (a : Act) w, Mem B M0 st.rows rho w → Fr (envOf M0 st.rows rho w) st.tm a.tmps → ∀ (K : Act → World → Prop) (Q : Exit → Act → World → Prop),
    (∀ (a' : Act) w' rho', Stp B M0 st.rows rho st.wr w st'.rows rho' st'.wr w' → Fr (envOf M0 st'.rows rho' w') st'.tm a'.tmps → a'.defers = a.defers → K a' w') →
    if Region.wanted o (yielded ops a.tmps) = true then o.wp P a w K Q else K (a.put o.dst undef) w

/-- What the plain calculus says of an operation holds within a round as well, but of a 'defer'. -/
theorem opIn_of_wp {P : Program} {o : Oper} (hd : notDefer o = true) {ro : Option Nat} {a : Act} {w : World} {K : Act → World → Prop} {Q : Exit → Act → World → Prop}
    (h : o.wp P a w K Q) : o.wpIn (fen ro) 0 P a w K Q := by
  refine ⟨fun _ _ => trivial, ?_⟩
  have hsem : o.semAt (fen ro).round a.eval = execOp a.eval o := by
    cases ro with
    | none => exact Oper.semAt_none _ _
    | some l => exact Oper.semAt_some l _ _ (fun c hc => by simp [notDefer, hc] at hd)
  rw [hsem]
  unfold Oper.wp at h
  generalize (execOp a.eval o).run P w = r at h
  cases r with
  | ok x w' =>
    cases x <;> simp only [Oper.upon, Oper.uponIn] at h ⊢
    case value v => exact h
    case skip => exact h
    case defer d => exact h
    case enter f args => exact ⟨fun h => (by cases h), (callsIn_wide (n := 0)).2 h⟩
    case row row args => exact ⟨fun h => (by cases h), fun c cs _ => let ⟨v, w2, r, s⟩ := h c cs; ⟨v, w2, r, (stepsIn_wide).2 s⟩⟩
  | halt x w' => cases x <;> simp only [Oper.upon, Oper.uponIn] at h ⊢ <;> exact h

theorem wpAnyIn_of {P : Program} {ops : Array Oper} (hnd : ops.toList.all notDefer = true) {ro : Option Nat} {Q : Exit → Act → World → Prop} (hQ : ¬ LetsOut Q) {md : Region.Mode} :
    ∀ (fuel : Nat) (listed : Array Bool) (a : Act) (w : World), wpAny P md ops Q fuel listed a w → wpAnyIn (fen ro) 0 P md ops Q fuel listed a w
  | 0, _, _, _, h => h
  | fuel + 1, listed, a, w, h => ⟨h.1, fun i hi => by
    have h1 := h.2 i hi
    unfold wpOp at h1
    unfold wpOpIn
    cases ho : ops[i]? with
    | none =>
      simp only [ho] at h1 ⊢
      exact wpAnyIn_of hnd hQ fuel _ a w h1
    | some o =>
      simp only [ho] at h1 ⊢
      have hod : notDefer o = true := List.all_eq_true.1 hnd o (by
        have := Array.mem_of_getElem? ho
        simpa using this)
      split
      · rename_i hw
        rw [if_pos hw] at h1
        rcases h1 with h2 | ⟨_, h2⟩
        · exact opIn_of_wp hod (Oper.wp_mono (fun a' w' h3 => wpAnyIn_of hnd hQ fuel _ a' w' h3) h2)
        · exact absurd h2 hQ
      · rename_i hw
        rw [if_neg hw] at h1
        exact ⟨fun _ _ => trivial, wpAnyIn_of hnd hQ fuel _ _ w h1⟩⟩

theorem put_defers (a : Act) (d : Option Tmp) (v : Value) : (a.put d v).defers = a.defers := by cases d <;> rfl
theorem Fr.put {E : Env} {tm : Fm} {a : Act} (hf : Fr E tm a.tmps) (d : Option Tmp) {x : AV} {v : Value} (h : Rd E x v) : Fr E (putA tm d x) (a.put d v).tmps := by
  cases d with
  | none => exact hf
  | some d => exact hf.set d h

theorem want_spec {ops : Array Oper} {st : St} {o : Oper} : Spec (wantA ops.toList st o) fun r => r.2.rows = st.rows ∧ r.2.wr = st.wr ∧
    ∀ E (a : Act), Fr E st.tm a.tmps → Region.wanted o (yielded ops a.tmps) = r.1 ∧ Fr E r.2.tm a.tmps := by
  unfold wantA
  split
  · rename_i hg
    exact Spec.pure' ⟨rfl, rfl, fun E a hf => ⟨by simp [Region.wanted, hg], hf⟩⟩
  · rename_i j want hgd
    refine Spec.bind (Spec.ofOpt fun oj hoj => Spec.bind (Spec.ofOpt fun d hd => ?_))
    split
    · rename_i a0 hx
      refine Spec.pure' ⟨rfl, rfl, fun E a hf => ⟨?_, hf⟩⟩
      have hv : a.tmps.getD d undef = .tuple a0 := Rd.lit_inv (hx ▸ hf.getD d)
      have hoj' : ops[j]? = some oj := by simpa using hoj
      have hy : yielded ops a.tmps j = none := by
        unfold yielded
        rw [getD_eq] at hv
        cases hq : a.tmps[d]? with
        | none => simp [hoj', hd, hq]
        | some v =>
          rw [hq] at hv
          have hv' : v = .tuple a0 := hv
          simp [hoj', hd, hq, hv']
      simp only [Region.wanted, hgd, hy]
      cases want <;> rfl
    intro c s x s' cs he hcs
    have hrw : x.2.rows = st.rows ∧ x.2.wr = st.wr := by
      have := Spec.bind (Q := fun x : Bool × St => x.2.rows = st.rows ∧ x.2.wr = st.wr) (m := decB (st.tm.get d)) (f := fun b => M.pure (eqB b want, { st with tm := st.tm.set d (ofB b) }))
        (fun c s x s' cs _ _ => Spec.pure' ⟨rfl, rfl⟩)
      exact this c s x s' cs he hcs
    refine ⟨hrw.1, hrw.2, fun E a hf => ?_⟩
    have := Spec.bind (Q := fun x : Bool × St => Region.wanted o (yielded ops a.tmps) = x.1 ∧ Fr E x.2.tm a.tmps) (m := decB (st.tm.get d)) (f := fun b => M.pure (eqB b want, { st with tm := st.tm.set d (ofB b) }))
      (decB_spec (hf.getD d) fun b hb => Spec.pure' ?_)
    · exact this c s x s' cs he hcs
    · have hlt : d < a.tmps.size := by
        cases Nat.lt_or_ge d a.tmps.size with
        | inl h => exact h
        | inr h => rw [getD_eq, Array.getElem?_eq_none h] at hb; cases hb
      have hget : a.tmps[d]? = some (.bool b) := by
        rw [Array.getElem?_eq_getElem hlt]
        rw [getD_eq, Array.getElem?_eq_getElem hlt] at hb
        simpa using hb
      have hoj' : ops[j]? = some oj := by simpa using hoj
      constructor
      · have hy : yielded ops a.tmps j = some b := by
          unfold yielded
          simp [hoj', hd, hget]
        simp only [Region.wanted, hgd, hy]
        cases b <;> cases want <;> rfl
      · refine hf.know d ?_
        have h2 : a.tmps.getD d undef = .bool b := by rw [getD_eq, hget]; rfl
        rw [h2]
        cases b
        · exact .ff
        · exact .tt

theorem step_spec (hg : g.OK) {run : Runner} (hrun : RunnerOK g.P run) {ops : Array Oper} {st : St} {o : Oper} : Spec (stepA g run ops.toList st o) fun st' => StepOK g.P ops st o st' := by
  unfold stepA
  refine Spec.bind (want_spec.mono fun p hp => ?_)
  obtain ⟨wnt, st1⟩ := p
  obtain ⟨h1, h2, h3⟩ := hp
  dsimp only at h1 h2 h3 ⊢
  obtain ⟨tm1, rows1, wr1⟩ := st1
  simp only at h1 h2
  subst h1; subst h2
  cases wnt with
  | true =>
    refine Spec.bind ((op_spec hg hrun).mono fun r hr => Spec.pure' ?_)
    intro B M0 rho a w hm hf K Q hK
    obtain ⟨k1, k2⟩ := h3 _ a hf
    rw [if_pos k1]
    refine hr B M0 rho a w hm k2 K Q fun v w' rho' hs hv => ?_
    exact hK _ w' rho' hs ((k2.ext hs.ext).put o.dst hv) (put_defers _ _ _)
  | false =>
    refine Spec.pure' ?_
    intro B M0 rho a w hm hf K Q hK
    obtain ⟨k1, k2⟩ := h3 _ a hf
    rw [if_neg (by rw [k1]; exact Bool.false_ne_true)]
    exact hK _ w rho (Stp.refl hm) (k2.put o.dst (.lit _)) (put_defers _ _ _)

theorem ops_spec (hg : g.OK) {run : Runner} (hrun : RunnerOK g.P run) {ops : Array Oper} : ∀ (l : List Oper) (st : St), l.all notDefer = true → Spec (opsA g run ops.toList l st) fun st' =>
    ∀ B M0 rho (a : Act) w (ro : Option Nat), Mem B M0 st.rows rho w → Fr (envOf M0 st.rows rho w) st.tm a.tmps → ∀ (Q : Exit → Act → World → Prop),
      (∀ (a' : Act) w' rho', Stp B M0 st.rows rho st.wr w st'.rows rho' st'.wr w' → Fr (envOf M0 st'.rows rho' w') st'.tm a'.tmps → a'.defers = a.defers → Q .normal a' w') → wpListIn (fen ro) 0 g.P ops Q l a w
  | [], st, _ => Spec.pure' fun B M0 rho a w ro hm hf Q hQ => hQ a w rho (Stp.refl hm) hf rfl
  | o :: l, st, hnd => by
    obtain ⟨hn1, hn2⟩ := (by simpa using hnd : notDefer o = true ∧ l.all notDefer = true)
    refine Spec.bind ((step_spec hg hrun).mono fun st1 h1 => (ops_spec hg hrun l st1 hn2).mono fun st2 h2 => ?_)
    intro B M0 rho a w ro hm hf Q hQ
    have := h1 B M0 rho a w hm hf (wpListIn (fen ro) 0 g.P ops Q l) Q fun a' w' rho' hs hf' hd' => h2 B M0 rho' a' w' ro hs.mem hf' Q fun a2 w2 rho2 hs2 hf2 hd2 => hQ a2 w2 rho2 (hs.trans hs2) hf2 (hd2.trans hd')
    unfold wpListIn
    split
    · rename_i hw; rw [if_pos hw] at this; exact opIn_of_wp hn1 this
    · rename_i hw; rw [if_neg hw] at this; exact ⟨fun _ _ => trivial, this⟩

theorem stepP_spec (hg : g.OK) {run : Runner} {ops : Array Oper} {n : Nat} {W : List Nat} {st : St} {o : Oper} : Spec (stepP g run ops.toList n W st o) fun st' => st'.rows = st.rows ∧ st'.wr = st.wr ∧
    ∀ B M0 rho (a : Act) w, Mem B M0 st.rows rho w → Fr (envOf M0 st.rows rho w) st.tm a.tmps →
      ∃ v, YieldsIf g.P ops (Keeps M0 (fun r => r < n ∧ r ∉ W) st.rows rho w) o v a ∧ Fr (envOf M0 st.rows rho w) st'.tm (a.put o.dst v).tmps := by
  unfold stepP
  refine Spec.bind (want_spec.mono fun p hp => ?_)
  obtain ⟨wnt, st1⟩ := p
  obtain ⟨h1, h2, h3⟩ := hp
  dsimp only at h1 h2 h3 ⊢
  obtain ⟨tm1, rows1, wr1⟩ := st1
  simp only at h1 h2
  subst h1; subst h2
  cases wnt with
  | true =>
    dsimp only
    split
    · rename_i hp
      refine Spec.bind ((op_pure_spec hg hp).mono fun r hr => Spec.pure' ?_)
      obtain ⟨r1, r2, r3⟩ := hr
      refine ⟨r1, r2, fun B M0 rho a w hm hf => ?_⟩
      obtain ⟨k1, k2⟩ := h3 _ a hf
      obtain ⟨v, hv, hr⟩ := r3 B M0 rho a w hm k2
      exact ⟨v, .inl ⟨k1, hr⟩, k2.put o.dst hv⟩
    · exact Spec.fail
  | false =>
    refine Spec.pure' ⟨rfl, rfl, fun B M0 rho a w hm hf => ?_⟩
    obtain ⟨k1, k2⟩ := h3 _ a hf
    exact ⟨undef, .inr ⟨k1, rfl⟩, k2.put o.dst (.lit _)⟩

theorem keeps_step {B : Nat} {M0 : Nat → Prop} {rows rows' : List Row} {rho rho' : List Nat} {wr' : List Nat} {w w' : World} {n : Nat} {W : List Nat}
    (hs : Stp B M0 rows rho [] w rows' rho' wr' w') (hl : ∀ s ∈ wr', n ≤ s ∨ s ∈ W) (x : World) (hx : Keeps M0 (fun r => r < n ∧ r ∉ W) rows' rho' w' x) : Keeps M0 (fun r => r < n ∧ r ∉ W) rows rho w x := by
  refine ⟨Nat.le_trans hs.ext.size hx.1, fun b hb hc => ?_⟩
  rcases hc with hM | ⟨r, row, ⟨h1, h2⟩, h3, h4, h5⟩
  · obtain ⟨k1, k2⟩ := hs.ext.keep b hb hM
    exact (hx.2 b (Nat.lt_of_lt_of_le hb hs.ext.size) (.inl k2)).trans k1
  · obtain ⟨k1, k2, row', k3, k4⟩ := hs.frm.2.2 r row b (List.getElem?_eq_some_iff.1 h5).1 h3 h4 h5 (fun hm => by
      rcases hl r hm with h6 | h6
      · omega
      · exact h2 h6)
    exact (hx.2 b (Nat.lt_of_lt_of_le hb hs.ext.size) (.inr ⟨r, row', ⟨h1, h2⟩, k3, k4, k2⟩)).trans k1

theorem Weak.refl {n0 : Nat} {st : St} : Weak n0 st st := by
  intro B M0 rho tmps w hn hm hf
  exact ⟨rho, (Stp.refl hm).toN hn, hf⟩
theorem nrm_weak {n0 : Nat} {st st' : St} (h : nrm n0 st = some st') : Weak n0 st st' := by
  unfold nrm at h
  split at h
  · cases h; exact Weak.refl
  · exact canon_weak h

theorem altL_spec {n0 : Nat} {k : Nat → M St} {Q : Nat → St → Prop} (hw : ∀ i s s', Weak n0 s s' → Q i s → Q i s') (h : ∀ i, Spec (k i) (Q i)) : ∀ l, Spec (altL n0 k l) fun st => ∀ i ∈ l, Q i st
  | [] => Spec.fail
  | [i] => by
    unfold altL
    refine Spec.bind ((h i).mono fun st hq => Spec.ofOpt fun st' hs => ?_)
    intro j hj
    have : j = i := by simpa using hj
    subst this; exact hw _ _ _ (nrm_weak hs) hq
  | i :: i2 :: rs => by
    unfold altL
    refine Spec.bind ((h i).mono fun st hq => Spec.bind (Spec.ofOpt fun st1 hs => Spec.bind ((altL_spec hw h (i2 :: rs)).mono fun st2 hq2 => Spec.bind (Spec.tell fun he => Spec.pure' ?_))))
    intro j hj
    rcases List.mem_cons.1 hj with rfl | hj
    · exact hw _ _ _ (nrm_weak hs) hq
    · rw [← he]; exact hq2 j hj
theorem altC_spec {n0 : Nat} {k : Nat → M St} {Q : Nat → St → Prop} (hw : ∀ i s s', Weak n0 s s' → Q i s → Q i s') (h : ∀ i, Spec (k i) (Q i)) : ∀ l, Spec (altC n0 k l) fun st => ∀ i ∈ l, Q i st
  | [] => Spec.fail
  | [i] => by
    unfold altC
    refine (h i).mono fun st hq j hj => ?_
    have : j = i := by simpa using hj
    subst this; exact hq
  | i :: i2 :: rs => by
    unfold altC
    refine Spec.bind ((h i).mono fun st hq => Spec.bind ((altC_spec hw h (i2 :: rs)).mono fun st2 hq2 => ?_))
    split
    · rename_i he
      refine Spec.pure' fun j hj => ?_
      rcases List.mem_cons.1 hj with rfl | hj
      · exact hq
      · exact hw _ _ _ (eqSt_weak he) (hq2 j hj)
    · refine Spec.bind (Spec.ofOpt fun t ht => Spec.bind (Spec.ofOpt fun t2 ht2 => ?_))
      split
      · rename_i he
        refine Spec.pure' fun j hj => ?_
        rcases List.mem_cons.1 hj with rfl | hj
        · exact hw _ _ _ (nrm_weak ht) hq
        · exact hw _ _ _ (eqSt_weak he) (hw _ _ _ (nrm_weak ht2) (hq2 j hj))
      · exact Spec.fail
theorem alt_spec {n0 : Nat} {k : Nat → M St} {Q : Nat → St → Prop} (hw : ∀ i s s', Weak n0 s s' → Q i s → Q i s') (h : ∀ i, Spec (k i) (Q i)) (l : List Nat) : Spec (altA n0 k l) fun st => ∀ i ∈ l, Q i st := by
  unfold altA
  split
  · rename_i i
    refine (h i).mono fun st hq j hj => ?_
    have : j = i := by simpa using hj
    subst this; exact hq
  · unfold altB
    intro c s x s' cs he hc
    cases c with
    | true => exact altC_spec hw h _ true s x s' cs he hc
    | false => exact altL_spec hw h _ false s x s' cs he hc

theorem draw_spec (hg : g.OK) {run : Runner} (hrun : RunnerOK g.P run) {ops : Array Oper} (hsel : Region.noSelect ops = true) {n : Nat} {W : List Nat} : ∀ (f : Nat) (listed : Array Bool) (st : St),
    Spec (drawA g run ops n true W (f + 1) listed st) fun st' =>
    ∀ B M0 rho (a : Act) w, Mem B M0 st.rows rho w → Fr (envOf M0 st.rows rho w) st.tm a.tmps → ∀ (R : Act → World → Prop),
      (∀ (a' : Act) w' rho', Stp B M0 st.rows rho st.wr w st'.rows rho' st'.wr w' → Fr (envOf M0 st'.rows rho' w') st'.tm a'.tmps → a'.defers = a.defers → R a' w') →
      wpAnyG g.P .any ops (fun e a w => e = .normal ∧ R a w) f listed (Keeps M0 (fun r => r < n ∧ r ∉ W) st.rows rho w) a w := by
  intro f
  induction f with
  | zero =>
    intro listed st
    unfold drawA
    split
    · rename_i hr
      exact Spec.pure' fun B M0 rho a w hm hf R hR => ⟨hr, rfl, hR a w rho (Stp.refl hm) hf rfl⟩
    · rename_i i rs hr
      split
      · refine Spec.bind (Spec.ofOpt fun o ho => Spec.bind ?_)
        intro c s x s' cs _ _
        unfold drawA
        exact Spec.fail
      · refine (alt_spec (Q := fun _ _ => False) (fun _ _ _ _ h => h) (fun i => ?_) (i :: rs)).mono fun st' h => absurd (h i (by simp)) (by simp)
        refine Spec.bind (Spec.ofOpt fun o ho => Spec.bind ?_)
        intro c s x s' cs _ _
        split
        · unfold drawA; exact Spec.fail
        · exact Spec.fail
  | succ f ih =>
    intro listed st
    unfold drawA
    split
    · rename_i hr
      refine Spec.pure' fun B M0 rho a w hm hf R hR => ?_
      refine ⟨fun _ => ⟨rfl, hR a w rho (Stp.refl hm) hf rfl⟩, fun i hi => ?_⟩
      rw [hr] at hi; cases hi
    · rename_i i rs hr
      split
      · rename_i k hk
        have hmem : k ∈ Region.ready .any ops listed := by rw [hr]; exact List.mem_of_find?_eq_some hk
        have hcond := List.find?_some hk
        simp only [Bool.and_eq_true] at hcond
        refine Spec.bind (Spec.ofOpt fun o ho => Spec.bind ((stepP_spec hg).mono fun st1 h1 => ?_))
        obtain ⟨r1, r2, r3⟩ := h1
        refine (ih (listed.setIfInBounds k true) st1).mono fun st' h2 => ?_
        intro B M0 rho a w hm hf R hR
        obtain ⟨v, hy, hf1⟩ := r3 B M0 rho a w hm hf
        have hrec := h2 B M0 rho (a.put o.dst v) w (by rw [r1]; exact hm) (by rw [r1]; exact hf1) R (by rw [r1, r2, put_defers]; exact hR)
        rw [r1] at hrec
        exact wpAnyG_first ho (Region.noSelect_spec hsel) (fun c a w h => by cases h.1) f listed _ a w (Region.free_spec ho hcond.2) hmem hy (Keeps.refl _ _ _ _ _) hrec
      · refine (alt_spec (Q := fun i st' => ∀ B M0 rho (a : Act) w, Mem B M0 st.rows rho w → Fr (envOf M0 st.rows rho w) st.tm a.tmps → ∀ (R : Act → World → Prop),
            (∀ (a' : Act) w' rho', Stp B M0 st.rows rho st.wr w st'.rows rho' st'.wr w' → Fr (envOf M0 st'.rows rho' w') st'.tm a'.tmps → a'.defers = a.defers → R a' w') →
            wpOp g.P ops (fun e a w => e = .normal ∧ R a w) i (fun a' w' => ∃ S' : World → Prop, (∀ x, S' x → Keeps M0 (fun r => r < n ∧ r ∉ W) st.rows rho w x) ∧ S' w' ∧ wpAnyG g.P .any ops (fun e a w => e = .normal ∧ R a w) f (listed.setIfInBounds i true) S' a' w') a w)
          ?hwk (fun i => ?_) (i :: rs)).mono fun st' h => ?_
        case hwk =>
          intro i s s' hwk hq B M0 rho a w hm hf R hR
          refine hq B M0 rho a w hm hf R fun a1 w1 rho1 hs hf1 hd1 => ?_
          have hl := hm.len
          obtain ⟨rho2, hs2, hf2⟩ := hwk B M0 rho1 a1.tmps w1 (by rw [← hl]; exact (hs.toN (n0 := rho.length) (Nat.le_refl _)).frm.1) hs.mem hf1
          rw [← hl] at hs2
          exact hR a1 w1 rho2 (StpN.toStp ((hs.toN (Nat.le_refl _)).trans hs2)) hf2 hd1
        · refine Spec.bind (Spec.ofOpt fun o ho => Spec.bind ((step_spec hg hrun).mono fun st1 h1 => ?_))
          split
          · rename_i hlog
            have hlog' : ∀ s ∈ st1.wr, n ≤ s ∨ s ∈ W := by
              rcases hlog with h | h
              · cases h
              · intro s hs
                have := List.all_eq_true.1 h s hs
                simp only [Bool.or_eq_true, decide_eq_true_eq] at this
                rcases this with h' | h'
                · exact .inl h'
                · exact .inr (by simpa using h')
            refine (ih (listed.setIfInBounds i true) { st1 with wr := st1.wr ++ st.wr }).mono fun st' h2 => ?_
            intro B M0 rho a w hm hf R hR
            have hstep := h1 B M0 rho a w hm hf
              (fun a' w' => ∃ S' : World → Prop, (∀ x, S' x → Keeps M0 (fun r => r < n ∧ r ∉ W) st.rows rho w x) ∧ S' w' ∧ wpAnyG g.P .any ops (fun e a w => e = .normal ∧ R a w) f (listed.setIfInBounds i true) S' a' w') (fun e a w => e = .normal ∧ R a w)
              (fun a' w' rho' hs hf' hd' => by
                have hs' : Stp B M0 st.rows rho st.wr w st1.rows rho' (st1.wr ++ st.wr) w' := by
                  refine ⟨hs.ext, hs.mem, hs.below, hs.frm.1, fun s h _ => List.mem_append_right _ h, fun r row b k1 k2 k3 k4 k5 => hs.frm.2.2 r row b k1 k2 k3 k4 (fun h => k5 (List.mem_append_left _ h))⟩
                refine ⟨Keeps M0 (fun r => r < n ∧ r ∉ W) st1.rows rho' w', fun x hx => keeps_step hs hlog' x hx, Keeps.refl _ _ _ _ _, ?_⟩
                exact h2 B M0 rho' a' w' hs.mem hf' R fun a2 w2 rho2 hs2 hf2 hd2 => hR a2 w2 rho2 (hs'.trans hs2) hf2 (hd2.trans hd'))
            unfold wpOp
            simp only [ho]
            split
            · rename_i hw; rw [if_pos hw] at hstep; exact .inl hstep
            · rename_i hw; rw [if_neg hw] at hstep; exact hstep
          · exact Spec.fail
        · intro B M0 rho a w hm hf R hR
          refine ⟨fun h0 => (by rw [h0] at hr; cases hr), fun j hj => ?_⟩
          rw [hr] at hj
          exact h j hj B M0 rho a w hm hf R hR

theorem Spec.peek {α : Type} {m : M α} {Q : α → Prop} (h : ∀ x, Q x) : Spec (peek m) Q := fun _ _ x _ _ _ _ => h x

theorem loop_spec {i : Bool} {run : Runner} (hrun : ∀ c st, Spec (run c st) fun r => AWi i g.P c st r) {b : Code} : ∀ (k : Nat) (st : St), Spec (loopA run b k st) fun r => AWL i g.P b st r
  | 0, st => Spec.fail
  | k + 1, st => by
    refine Spec.bind ((hrun b st).mono fun r h => ?_)
    obtain ⟨ex, st1⟩ := r
    cases ex with
    | normal => exact (loop_spec hrun k st1).mono fun r2 h2 => AWL.step h h2
    | exit id => exact Spec.pure' (AWL.out h (by simp [Ex.toExit]))
    | ret => exact Spec.pure' (AWL.out h (by simp [Ex.toExit]))

/-! ### Ranges over the closures of slices.Backward -/

/-- The rounds that are left. -/
def RndOK (P : Program) (tm : Fm) (p q : Tmp) (assign body : Code) (el : Nat → AV) : Nat → St → Ex × St → Prop
  | 0, s, r => r = (.normal, ⟨tm, s.rows, s.wr⟩)
  | k + 1, s, r => ∃ s1, AWi true P assign ⟨(tm.set p (.lit (.int .i64 (k : Int)))).set q (el k), s.rows, s.wr⟩ (.normal, s1) ∧
      ((∃ s2, AWi true P body s1 (.normal, s2) ∧ RndOK P tm p q assign body el k s2 r) ∨
       (∃ e s2, e.toExit ≠ .normal ∧ AWi true P body s1 (e, s2) ∧ r = (e, ⟨tm, s2.rows, s2.wr⟩)))

theorem backRounds_spec {run : Runner} (hrun : ∀ c st, Spec (run c st) fun r => AWi true g.P c st r) {tm : Fm} {p q : Tmp} {assign body : Code} {el : Nat → AV} :
    ∀ (k : Nat) (s : St), Spec (backRounds run tm p q assign body el k s) fun r => RndOK g.P tm p q assign body el k s r
  | 0, s => Spec.pure' rfl
  | k + 1, s => by
    refine Spec.bind ((hrun _ _).mono fun r1 h1 => ?_)
    obtain ⟨e1, s1⟩ := r1
    cases e1 with
    | normal =>
      refine Spec.bind ((hrun _ _).mono fun r2 h2 => ?_)
      obtain ⟨e2, s2⟩ := r2
      cases e2 with
      | normal => exact (backRounds_spec hrun k s2).mono fun r h => ⟨s1, h1, .inl ⟨s2, h2, h⟩⟩
      | exit id => exact Spec.pure' ⟨s1, h1, .inr ⟨.exit id, s2, by simp [Ex.toExit], h2, rfl⟩⟩
      | ret => exact Spec.pure' ⟨s1, h1, .inr ⟨.ret, s2, by simp [Ex.toExit], h2, rfl⟩⟩
    | exit id => exact Spec.fail
    | ret => exact Spec.fail

/-- What a range goes through. -/
def BackOK (rows : List Row) (x : AV) (r : Nat × (Nat → AV) × List Row) (P : Program) : Prop :=
  ∀ B M0 rho wr w v, Mem B M0 rows rho w → Rd (envOf M0 rows rho w) x v →
    Stp B M0 rows rho wr w r.2.2 rho wr w ∧ ∃ gf ag Bs oB a cap vals, v = .func (.func gf) #[] #[.pointer (some ⟨Bs, oB, none⟩)] ∧ BwOK P gf ag ∧ r.1 ≤ 1099511627776 ∧
      Bs < w.heap.size ∧ ¬ Mset M0 r.2.2 rho Bs ∧ w.cell? ⟨Bs, oB, none⟩ = some (.slice a r.1 cap) ∧
      (r.1 = 0 ∨ ∃ b o, a = some ⟨b, o, none⟩ ∧ b < w.heap.size ∧ ¬ Mset M0 r.2.2 rho b ∧ ∀ i, i < r.1 * ag → w.cell? ⟨b, o + i, none⟩ = some (vals i)) ∧
      ∀ k, k < r.1 → Rd (envOf M0 r.2.2 rho w) (r.2.1 k) (encV ag vals k)

theorem back_spec (hg : g.OK) (rows : List Row) (x : AV) : Spec (backA g rows x) fun r => BackOK rows x r g.P := by
  unfold backA
  split
  · rename_i gf cap
    refine Spec.bind (Spec.ofOpt fun ag hag => ?_)
    split
    · rename_i hag12
      refine Spec.bind (Spec.ofOpt fun pr hp => ?_)
      obtain ⟨c, rows1, fps⟩ := pr
      dsimp only
      refine Spec.bind (Spec.tellAll fun hfps => ?_)
      split
      · rename_i s
        refine Spec.bind (Spec.ofOpt fun pr2 hp2 => ?_)
        obtain ⟨n, els⟩ := pr2
        dsimp only
        split
        · rename_i hd
          refine Spec.bind (Spec.chk fun hn => Spec.pure' ?_)
          intro B M0 rho wr w v hm hv
          dsimp only
          cases hv with
          | @fn _ _ vs hl hr =>
            have hvs : vs.size = 1 := by simpa using hl.symm
            obtain ⟨u, rfl⟩ : ∃ u, vs = #[u] := by
              obtain ⟨l⟩ := vs
              obtain ⟨u, rfl⟩ := List.length_eq_one_iff.1 (by simpa using hvs)
              exact ⟨u, rfl⟩
            have hu : Rd (envOf M0 rows rho w) cap u := hr 0 (by simp)
            obtain ⟨hs, hc⟩ := (frz_ok 40).1 _ _ _ _ _ hp hfps B M0 rho wr w u hm hu
            refine ⟨hs, ?_⟩
            cases hc with
            | @pd _ _ b o vals hsz hM hv hr2 =>
              have hs0 := hr2 0 (by simp)
              have hv0 := hv 0 (by simp)
              obtain ⟨a, cp, vals2, he, hpl, hel⟩ := elems_data hp2 hd hs0
              refine ⟨gf, ag, b, o + 0, a, cp, vals2, rfl, hg.bw gf ag hag, by simpa using hn, hsz, hM, ?_, ?_, fun k hk => ?_⟩
              · rw [cell?_eq]; rw [he] at hv0; exact hv0
              · rcases hpl with h0 | ⟨b2, o2, h1, h2, h3, h4⟩
                · exact .inl h0
                · exact .inr ⟨b2, o2, h1, h2, h3, fun i hi => by rw [cell?_eq]; exact h4 i hi⟩
              · unfold elAt encV
                split
                · rename_i h1
                  subst h1
                  exact hel k (by omega)
                · rename_i h1
                  have h2 : ag = 2 := hag12.resolve_left h1
                  subst h2
                  refine .agg rfl fun i hi => ?_
                  have hi2 : i < 2 := hi
                  have : i = 0 ∨ i = 1 := by omega
                  rcases this with rfl | rfl
                  · exact hel (2 * k) (by omega)
                  · exact hel (2 * k + 1) (by omega)
        · exact Spec.fail
      · exact Spec.fail
    · exact Spec.fail
  · exact Spec.fail

theorem Mk.putObj {M0 : Nat → Prop} {rows : List Row} {rho : List Nat} {w : World} {L l : Nat} {x : Loop} {o' : Obj} {ds : List Deferred} (h : Mk (envOf M0 rows rho w) L ds) (ho : w.heap[l]? = some (.loop x)) :
    Mk (envOf M0 rows rho (w.putObj l o')) L ds := by
  obtain ⟨h0, rs, h1, h2, h3⟩ := h
  refine ⟨by simpa [envOf] using h0, rs, h1, h2, fun r hr => ?_⟩
  obtain ⟨a, b, c, d⟩ := h3 r hr
  have hd : w.heap[r]? = some (.deferred (some [])) := d
  have hne : r ≠ l := by rintro rfl; rw [ho] at hd; cases hd
  exact ⟨a, by simpa [envOf] using b, c, (World.putObj_heap_other hne).trans hd⟩

theorem range_aw {P : Program} {ps : Array Tmp} {p q : Tmp} (hpq : ps.toList = [p, q]) {f : Operand} {assign body : Code} {st : St} {m : Nat} {el : Nat → AV} {rows : List Row}
    (hb : BackOK st.rows (evalO st.tm f) (m, el, rows) P) {r : Ex × St} (hr : RndOK P st.tm p q assign body el m ⟨st.tm, rows, st.wr⟩ r) : AWi false P (.rangeFunc f ps assign body) st r := by
  intro B M0 L rho a w ro hi hm hf hd
  obtain rfl : ro = none := by cases ro <;> first | rfl | cases hi
  obtain ⟨psl⟩ := ps
  obtain rfl : psl = [p, q] := by simpa using hpq
  obtain ⟨hs0, gf, ag, Bs, oB, sa, cap, vals, hv, ⟨heg, hbw⟩, hm40, hBs, hBsM, hcell, hplace, hel⟩ := hb B M0 rho st.wr w _ hm (hf.eval f)
  dsimp only at hs0 hm40 hBsM hcell hplace hel
  have hf1 : Fr (envOf M0 rows rho w) st.tm a.tmps := hf.ext hs0.ext
  have hd1 : Mk (envOf M0 rows rho w) L a.defers := hd.ext hs0.ext
  refine wpIn_rangeFunc ?_
  intro fn _
  obtain ⟨rec, hrec⟩ : ∃ rec : LoopState → Option Code → Loop, rec = fun s pe => { state := s, pending := pe, fn, tmps := a.tmps, params := [p, q].toArray, assign, body, defers := w.heap.size } := ⟨_, rfl⟩
  obtain ⟨W1, hW1⟩ : ∃ W1, (w.alloc (.deferred (some []))).alloc (.loop (rec .ready none)) = W1 := ⟨_, rfl⟩
  have hbl : Below w.heap.size w W1 := by rw [← hW1]; exact ((Below.refl _ w).alloc (Nat.le_refl _) _).alloc (by simp) _
  have hL1 : W1.heap[w.heap.size + 1]? = some (.loop (rec .ready none)) := by
    rw [← hW1]; have := World.alloc_heap_new (w.alloc (.deferred (some []))) (.loop (rec .ready none)); rwa [World.size_alloc] at this
  have hK1 : W1.heap[w.heap.size]? = some (.deferred (some [])) := by
    rw [← hW1]; exact (Below.heap_alloc _ _ _ (by simp)).trans (World.alloc_heap_new w _)
  have hs1 : Stp B M0 rows rho st.wr w rows rho st.wr W1 := Stp.of_below hs0.mem hbl
  have hDM : ¬ Mset M0 rows rho w.heap.size := fun h => by have := hs0.mem.lt h; omega
  have hlM : ¬ Mset M0 rows rho (w.heap.size + 1) := fun h => by have := hs0.mem.lt h; omega
  -- behind the statement
  have fin : ∀ (W3 : World) (s : St) (rho' : List Nat) (sx : LoopState) (pe : Option Code), sx ≠ .busy → Stp B M0 rows rho st.wr w s.rows rho' s.wr W3 → W3.heap[w.heap.size + 1]? = some (.loop (rec sx pe)) →
      W3.heap[w.heap.size]? = some (.deferred (some [])) → ¬ Mset M0 s.rows rho' w.heap.size →
      ∃ W4, (Instr.endLoop (w.heap.size + 1)).run P W3 = .ok pe W4 ∧ ∃ rho', Stp B M0 st.rows rho st.wr w s.rows rho' s.wr W4 ∧ Fr (envOf M0 s.rows rho' W4) st.tm a.tmps ∧ Mk (envOf M0 s.rows rho' W4) L (markD w.heap.size :: a.defers) := by
    intro W3 s rho' sx pe hsx hS hl hk hMD
    have hend := run_endLoop (P := P) hl (by rw [hrec]; exact hsx)
    have hS4 := hS.putObj (o' := .loop { rec sx pe with state := .exhausted }) hs0.mem (by omega) hl rfl rfl
    refine ⟨_, (by rw [hend, hrec]), rho', hs0.trans hS4, hf1.ext hS4.ext, ?_⟩
    obtain ⟨h0, rs, h1, h2, h3⟩ := hd1
    have hlt : w.heap.size + 1 < W3.heap.size := (Array.getElem?_eq_some_iff.1 hl).1
    have h0' : L ≤ w.heap.size := h0
    refine ⟨by simp [envOf]; omega, w.heap.size :: rs, by simp [h1], List.nodup_cons.2 ⟨fun h => ?_, h2⟩, fun r hr => ?_⟩
    · have h4 : w.heap.size < w.heap.size := (h3 _ h).2.1
      omega
    · rcases List.mem_cons.1 hr with rfl | hr
      · exact ⟨h0', by simp [envOf]; omega, hMD, (World.putObj_heap_other (by omega)).trans hk⟩
      · obtain ⟨k1, k2, k3, k4⟩ := h3 r hr
        obtain ⟨j1, j2⟩ := hS4.ext.keep r k2 k3
        exact ⟨k1, Nat.lt_of_lt_of_le k2 hS4.ext.size, j2, j1.trans k4⟩
  obtain ⟨J, hJ⟩ : ∃ J : Nat → World → Prop, J = fun k W => ∃ (s : St) (rho' : List Nat), RndOK P st.tm p q assign body el k s r ∧ Stp B M0 rows rho st.wr w s.rows rho' s.wr W ∧
    W.heap[w.heap.size + 1]? = some (.loop (rec .ready none)) ∧ W.heap[w.heap.size]? = some (.deferred (some [])) ∧ ¬ Mset M0 s.rows rho' w.heap.size ∧ ¬ Mset M0 s.rows rho' (w.heap.size + 1) := ⟨_, rfl⟩
  obtain ⟨Jx, hJx⟩ : ∃ Jx : World → Prop, Jx = fun W => ∃ (c : Code) (s : St) (rho' : List Nat), ((c = .ret ∧ r.1 = .ret) ∨ ∃ id, c = .exit id ∧ r.1 = .exit id) ∧ r.2 = ⟨st.tm, s.rows, s.wr⟩ ∧ Stp B M0 rows rho st.wr w s.rows rho' s.wr W ∧
    W.heap[w.heap.size + 1]? = some (.loop (rec .done (some c))) ∧ W.heap[w.heap.size]? = some (.deferred (some [])) ∧ ¬ Mset M0 s.rows rho' w.heap.size := ⟨_, rfl⟩
  refine ⟨w.heap.size + 1, [markD w.heap.size], W1, { target := .fn (.func gf) #[.pointer (some ⟨Bs, oB, none⟩)], args := #[.func (.yield (w.heap.size + 1)) #[] #[]] }, W1, gf,
    #[.func (.yield (w.heap.size + 1)) #[] #[], .pointer (some ⟨Bs, oB, none⟩)], W1, ?_, ?_, ?_, ?_, (fun h => by cases h), ?_⟩
  · rw [← hW1, hrec]; exact run_enterLoop_outer _ _ _ _ _
  · simp only [resolve, hv]
    simp [go_sem]
  · intro f' _; trivial
  · simp [invoke, go_sem, heg]
  · refine (hbw (w.heap.size + 1) Bs oB sa m cap vals J Jx W1 hm40 ((hbl.cell (p := ⟨Bs, oB, none⟩) hBs).trans hcell) ?_ ?_ ?_ ?_).mono ?_
    · rcases hplace with h0 | ⟨b, o, h1, h2, h3, h4⟩
      · exact .inl h0
      · exact .inr ⟨b, o, h1, fun i hi => (hbl.cell (p := ⟨b, o + i, none⟩) h2).trans (h4 i hi)⟩
    · intro k W' hJk
      rw [hJ] at hJk
      obtain ⟨s, rho', _, hS, _⟩ := hJk
      refine ⟨((hS.ext.keep Bs hBs hBsM).1).trans (hbl.block Bs hBs).symm, fun b o e hne => ?_⟩
      rcases hplace with h0 | ⟨b2, o2, h1, h2, h3, _⟩
      · exact absurd h0 hne
      · rw [h1] at e
        cases e
        exact ((hS.ext.keep _ h2 h3).1).trans (hbl.block _ h2).symm
    · -- one round
      intro k W hkm hJk
      rw [hJ] at hJk
      obtain ⟨s, rho', ⟨s1, hA, hB⟩, hS, hl, hk, hMD, hMl⟩ := hJk
      have hlt : w.heap.size + 1 < W.heap.size := (Array.getElem?_eq_some_iff.1 hl).1
      have hy := run_yield (P := P) (args := #[.int .i64 (k : Int), encV ag vals k]) hl (by rw [hrec]; rfl)
      have hy2 : (Instr.yield (w.heap.size + 1) #[.int .i64 (k : Int), encV ag vals k]).run P W = .ok (.round (w.heap.size + 1) fn ((a.tmps.setIfInBounds p (.int .i64 (k : Int))).setIfInBounds q (encV ag vals k)) assign body) W :=
        hy.trans (by rw [hrec]; simp)
      clear hy
      refine ⟨fn, _, assign, body, hy2, roundIn_of_wpIn trivial ?_⟩
      have hfr : Fr (envOf M0 s.rows rho' W) ((st.tm.set p (.lit (.int .i64 (k : Int)))).set q (el k)) ((a.tmps.setIfInBounds p (.int .i64 (k : Int))).setIfInBounds q (encV ag vals k)) :=
        ((hf1.ext hS.ext).set p (.lit _)).set q ((hel k hkm).ext hS.ext)
      refine wpIn_mono (hA B M0 0 rho' ⟨(a.tmps.setIfInBounds p (.int .i64 (k : Int))).setIfInBounds q (encV ag vals k), []⟩ W (some (w.heap.size + 1)) rfl hS.mem hfr (Mk.nil (Nat.zero_le _))) ?_
      rintro e a1 Wa ⟨he, rho1, hSa, hfa, hda⟩
      subst he
      obtain ⟨hla, hMla⟩ := hSa.ext.keep _ hlt hMl
      obtain ⟨hka, hMDa⟩ := hSa.ext.keep w.heap.size (by show _ < W.heap.size; omega) hMD
      replace hla := hla.trans hl
      replace hka := hka.trans hk
      have hla' : Wa.heap[w.heap.size + 1]? = some (.loop (rec .ready none)) := hla
      have hka' : Wa.heap[w.heap.size]? = some (.deferred (some [])) := hka
      have hlta : w.heap.size + 1 < Wa.heap.size := (Array.getElem?_eq_some_iff.1 hla').1
      refine ⟨_, run_beginRound hla' (by rw [hrec]), ?_⟩
      have hSb := (hS.trans hSa).putObj (o' := .loop { rec .ready none with state := .busy }) hs0.mem (by omega) hla' rfl rfl
      have hfb := hfa.putObj (o' := .loop { rec .ready none with state := .busy }) hla' rfl rfl
      have hdb := hda.putObj (o' := .loop { rec .ready none with state := .busy }) hla'
      have hlb : (Wa.putObj (w.heap.size + 1) (.loop { rec .ready none with state := .busy })).heap[w.heap.size + 1]? = some (.loop { rec .ready none with state := .busy }) := World.putObj_heap_same hlta
      have hkb : (Wa.putObj (w.heap.size + 1) (.loop { rec .ready none with state := .busy })).heap[w.heap.size]? = some (.deferred (some [])) := (World.putObj_heap_other (by omega)).trans hka'
      -- the round's end
      have fin2 : ∀ (jump : Option Code) (s2 : St) (rho2 : List Nat) (Wc : World), Stp B M0 s1.rows rho1 s1.wr (Wa.putObj (w.heap.size + 1) (.loop { rec .ready none with state := .busy })) s2.rows rho2 s2.wr Wc →
          ∃ Wd, (Instr.endRound (w.heap.size + 1) jump).run P Wc = .ok (.bool jump.isNone) Wd ∧ Stp B M0 rows rho st.wr w s2.rows rho2 s2.wr Wd ∧
            Wd.heap[w.heap.size + 1]? = some (.loop (rec (if jump.isNone then .ready else .done) jump)) ∧ Wd.heap[w.heap.size]? = some (.deferred (some [])) ∧ ¬ Mset M0 s2.rows rho2 w.heap.size ∧ ¬ Mset M0 s2.rows rho2 (w.heap.size + 1) := by
        intro jump s2 rho2 Wc hSc
        obtain ⟨hlc, hMlc⟩ := hSc.ext.keep (w.heap.size + 1) (by simp [envOf]; omega) hMla
        obtain ⟨hkc, hMDc⟩ := hSc.ext.keep w.heap.size (by simp [envOf]; omega) hMDa
        have hlc' : Wc.heap[w.heap.size + 1]? = some (.loop { rec .ready none with state := .busy }) := hlc.trans hlb
        have hkc' : Wc.heap[w.heap.size]? = some (.deferred (some [])) := hkc.trans hkb
        have hend := run_endRound (P := P) jump hlc'
        refine ⟨_, hend, (hSb.trans hSc).putObj hs0.mem (by omega) hlc' rfl rfl, ?_, (World.putObj_heap_other (by omega)).trans hkc', hMDc, hMlc⟩
        rw [World.putObj_heap_same (Array.getElem?_eq_some_iff.1 hlc').1, hrec]
      rcases hB with ⟨s2, hBd, hrest⟩ | ⟨e2, s2, hne, hBd, hre⟩
      · refine wpIn_mono (hBd B M0 0 rho1 a1 _ (some (w.heap.size + 1)) rfl hSb.mem hfb hdb) ?_
        rintro e a2 Wc ⟨he, rho2, hSc, _, _⟩
        subst he
        obtain ⟨Wd, hend, hSd, hld, hkd, hMDd, hMld⟩ := fin2 none s2 rho2 Wc hSc
        refine ⟨_, Wd, hend, .inl ⟨rfl, ?_⟩⟩
        rw [hJ]
        exact ⟨s2, rho2, hrest, hSd, hld, hkd, hMDd, hMld⟩
      · refine wpIn_mono (hBd B M0 0 rho1 a1 _ (some (w.heap.size + 1)) rfl hSb.mem hfb hdb) ?_
        rintro e a2 Wc ⟨he, rho2, hSc, _, _⟩
        subst he
        cases e2 with
        | normal => exact absurd rfl hne
        | ret =>
          obtain ⟨Wd, hend, hSd, hld, hkd, hMDd, hMld⟩ := fin2 (some .ret) s2 rho2 Wc hSc
          refine ⟨_, Wd, hend, .inr ⟨rfl, ?_⟩⟩
          rw [hJx]
          exact ⟨.ret, s2, rho2, .inl ⟨rfl, by rw [hre]⟩, by rw [hre], hSd, hld, hkd, hMDd⟩
        | exit id =>
          obtain ⟨Wd, hend, hSd, hld, hkd, hMDd, hMld⟩ := fin2 (some (.exit id)) s2 rho2 Wc hSc
          refine ⟨_, Wd, hend, .inr ⟨rfl, ?_⟩⟩
          rw [hJx]
          exact ⟨.exit id, s2, rho2, .inr ⟨id, rfl, by rw [hre]⟩, by rw [hre], hSd, hld, hkd, hMDd⟩
    · rw [hJ]
      exact ⟨⟨st.tm, rows, st.wr⟩, rho, hr, hs1, hL1, hK1, hDM, hlM⟩
    · rintro e W3 ⟨⟨v, rfl⟩, h⟩
      rcases h with h | h
      · rw [hJ] at h
        obtain ⟨s, rho', hR0, hS, hl, hk, hMD, _⟩ := h
        obtain rfl : r = (.normal, ⟨st.tm, s.rows, s.wr⟩) := hR0
        obtain ⟨W4, hend, rho4, h1, h2, h3⟩ := fin W3 s rho' .ready none (by intro h; cases h) hS hl hk hMD
        exact ⟨none, W4, hend, rfl, rho4, h1, h2, h3⟩
      · rw [hJx] at h
        obtain ⟨c, s, rho', hc, hr2, hS, hl, hk, hMD⟩ := h
        obtain ⟨W4, hend, rho4, h1, h2, h3⟩ := fin W3 s rho' .done (some c) (by intro h; cases h) hS hl hk hMD
        obtain ⟨re, rs⟩ := r
        dsimp only at hc hr2
        subst hr2
        refine ⟨some c, W4, hend, ?_⟩
        rcases hc with ⟨rfl, rfl⟩ | ⟨id, rfl, rfl⟩
        · exact wpIn_ret ⟨rfl, rho4, h1, h2, h3⟩
        · exact wpIn_exit ⟨rfl, rho4, h1, h2, h3⟩

theorem evA_spec (hg : g.OK) : ∀ (n : Nat) (i : Bool) (c : Code) (st : St), Spec (evA g n i c st) fun r => AWi i g.P c st r
  | 0, i, c, st => Spec.fail
  | n + 1, i, c, st => by
    have hrun : RunnerOK g.P (evA g n false) := fun c st => evA_spec hg n false c st
    unfold evA
    split
    · exact Spec.pure' AWi.skip
    · exact Spec.pure' AWi.label
    · rename_i id ops draw
      split
      · rename_i hnd
        cases draw with
        | false =>
          refine Spec.bind ((ops_spec hg hrun ops.toList st hnd).mono fun st' h => Spec.pure' ?_)
          intro B M0 L rho a w ro hi hm hf hd
          refine wpIn_region_list (h B M0 rho a w ro hm hf _ fun a' w' rho' hs hf' hd' => ⟨rfl, rho', hs, hf', by rw [hd']; exact hd.ext hs.ext⟩)
        | true =>
          dsimp only
          split
          · rename_i hsel
            refine Spec.bind (Spec.peek fun st0 => ?_)
            refine Spec.bind ((draw_spec hg hrun hsel ops.size (Array.replicate ops.size false) st).mono fun st' h => Spec.pure' ?_)
            intro B M0 L rho a w ro hi hm hf hd
            have hs0 := stp_drew (wr := st.wr) hm
            have := h B M0 rho a w.drew hs0.mem (hf.ext hs0.ext) (fun a' w' => Post B M0 L rho st w (.normal, st') .normal a' w') fun a' w' rho' hs hf' hd' => ⟨rfl, rho', hs0.trans hs, hf', by rw [hd']; exact hd.ext (hs0.trans hs).ext⟩
            refine wpIn_mono (wpIn_region_any hg.mixed (wpAnyIn_of hnd (by rintro ⟨a, w, h, _⟩; cases h) _ _ _ _ (wpAny_of_G _ _ _ _ _ this))) ?_
            rintro e a' w' ⟨rfl, hp⟩
            exact hp
          · exact Spec.fail
      · exact Spec.fail
    · rename_i a b
      refine Spec.bind ((evA_spec hg n i a st).mono fun r h => ?_)
      obtain ⟨ex, st1⟩ := r
      cases ex with
      | normal => exact (evA_spec hg n i b st1).mono fun r2 h2 => h.seq h2
      | exit id => exact Spec.pure' (h.seq_out (by simp [Ex.toExit]))
      | ret => exact Spec.pure' (h.seq_out (by simp [Ex.toExit]))
    · rename_i cnd a b
      intro cc s x s' cs he hcs B M0 L rho act w ro hi hm hf hd
      have hq := Spec.bind (Q := fun r => ∃ t, act.eval cnd = .bool t ∧ AWi i g.P (if t then a else b) st r) (m := decB (evalO st.tm cnd)) (f := fun v => match v with | true => evA g n i a st | false => evA g n i b st)
        (decB_spec (hf.eval cnd) fun v hv => by
          cases v with
          | true => exact (evA_spec hg n i a st).mono fun r h => ⟨true, hv, h⟩
          | false => exact (evA_spec hg n i b st).mono fun r h => ⟨false, hv, h⟩)
      obtain ⟨t, ht, haw⟩ := hq cc s x s' cs he hcs
      exact wpIn_cond ht (haw B M0 L rho act w ro hi hm hf hd)
    · rename_i id b
      refine Spec.bind ((evA_spec hg n i b st).mono fun r h => ?_)
      obtain ⟨ex, st1⟩ := r
      exact Spec.pure' h.block
    · rename_i b
      cases i with
      | true => exact (loop_spec (fun c st => evA_spec hg n true c st) n st).mono fun r h => h.aw
      | false =>
        refine Spec.bind (Spec.loopFor fun o => ?_)
        cases o with
        | some f =>
          refine Spec.bind (Spec.ofOpt fun p hp => ?_)
          obtain ⟨r, ps⟩ := p
          refine Spec.bind (Spec.tell fun hl => Spec.bind (Spec.tellAll fun hps => Spec.pure' (hl st r ps hp hps)))
        | none => exact (loop_spec (fun c st => evA_spec hg n false c st) n st).mono fun r h => h.aw
    · exact Spec.pure' AWi.exit
    · exact Spec.pure' AWi.ret
    · rename_i f ps assign body
      cases i with
      | true => exact Spec.fail
      | false =>
        dsimp only
        split
        · rename_i p q hpq
          refine Spec.bind ((back_spec hg st.rows _).mono fun r hb => ?_)
          obtain ⟨m, el, rows⟩ := r
          exact (backRounds_spec (fun c st => evA_spec hg n true c st) m _).mono fun r hr => range_aw hpq hb hr
        · exact Spec.fail
    · exact Spec.fail
end
end Go.Ev
end

section
namespace Go.Ev
open Go.RowKit (Below)

section
variable (g : Cfg)

/-- A whole function on data. -/
def fcA (fuel : Nat) (f : FuncId) (args : List AV) : M AV := do
  let fn ← ofOpt 110 (fnOf g.P f)
  let c ← ofOpt 111 fn.body
  if fn.ntmps < args.length then fail 112 else
  let (ex, st) ← evA g fuel false c ⟨Fm.args fn.ntmps args, [], []⟩
  match ex with
  | .exit _ => fail 113
  | _ => do
    let vs ← resultsA g st fn.results.toList
    let (v, _, ps) ← ofOpt 114 (frz 40 st.rows (one vs))
    tellAll ps
    if isData 20 v = true then M.pure v else fail 115
end

section
variable {g : Cfg}

/-- The same as a call with the call's own rows. -/
theorem fcA_spec (hg : g.OK) (fuel : Nat) (f : FuncId) (args : List AV) : Spec (fcA g fuel f args) fun v => FC g.P f args v := by
  unfold fcA
  refine Spec.bind (Spec.ofOpt fun fn hfn => Spec.bind (Spec.ofOpt fun c hc => ?_))
  split
  · exact Spec.fail
  · rename_i hnt
    have hcall : ∀ r : Out, CallOK g.P [] [] f args r → ∀ v rows ps, frz 40 r.rows r.v = some (v, rows, ps) → (∀ p ∈ ps, p) → isData 20 v = true → FC g.P f args v := by
      intro r hr v rows ps hv hps hd M w vs hM hl hargs
      have hm : Mem w.heap.size M [] [] w := ⟨Nat.le_refl _, hM, rfl, fun r b h => (by cases h), fun r row b h => (by cases h), fun r r' row row' b h => (by cases h)⟩
      have hext : Ext ⟨w.heap, M, []⟩ (envOf M [] [] w) := ⟨Nat.le_refl _, fun b _ hb => ⟨rfl, by rintro (h | ⟨r, row, h, _⟩) <;> first | exact hb h | cases h⟩, fun r b h => (by cases h), fun _ _ => rfl⟩
      refine (hr w.heap.size M [] w vs hm ⟨hl, fun i hi => (hargs i hi).ext hext⟩).mono ?_
      rintro e w' ⟨u, he, rho', hs, hu⟩
      obtain ⟨hs2, hu2⟩ := (frz_ok 40).1 _ _ _ _ _ hv hps _ _ _ [] w' u hs.mem hu
      refine ⟨u, he, hs.below, ?_⟩
      refine Rd.data (E := envOf M rows rho' w') (E' := ⟨w'.heap, M, []⟩) rfl (fun b hb hMb => hb (.inl hMb)) hu2 20 hd
    have hrun : RunnerOK g.P (evA g fuel false) := fun c st => evA_spec hg fuel false c st
    -- the call's own part is callA's, without a contract for f
    intro cc s x s' cs he hcs
    have hsp : Spec (do
        let (ex, st) ← evA g fuel false c ⟨Fm.args fn.ntmps args, [], []⟩
        match ex with
        | .exit _ => fail 113
        | _ => do
          let vs ← resultsA g st fn.results.toList
          let (v, _, ps) ← ofOpt 114 (frz 40 st.rows (one vs))
          tellAll ps
          if isData 20 v = true then M.pure v else fail 115) fun v => FC g.P f args v := by
      have hcs := call_spec_body hg (run := evA g fuel false) hrun hfn hc hnt [] []
      refine Spec.bind (hcs.mono fun r hr => ?_)
      obtain ⟨ex, st⟩ := r
      dsimp only at hr ⊢
      have fin : (ex = .normal ∨ ex = .ret) → Spec (do
          let vs ← resultsA g st fn.results.toList
          let (v, _, ps) ← ofOpt 114 (frz 40 st.rows (one vs))
          tellAll ps
          if isData 20 v = true then M.pure v else fail 115) fun v => FC g.P f args v := by
        intro hex
        refine Spec.bind ((hr hex).mono fun vs hvs => Spec.bind (Spec.ofOpt fun p hp => ?_))
        obtain ⟨v, rows, ps⟩ := p
        dsimp only
        refine Spec.bind (Spec.tellAll fun hps => ?_)
        split
        · rename_i hd
          exact Spec.pure' (hcall ⟨one vs, st.rows, st.wr⟩ hvs v rows ps hp hps hd)
        · exact Spec.fail
      split
      · exact Spec.fail
      · rename_i hne
        refine fin ?_
        cases ex with
        | normal => exact .inl rfl
        | ret => exact .inr rfl
        | exit id => exact absurd rfl (hne id)
    exact hsp cc s x s' cs he hcs

theorem fc_run (hg : g.OK) {fuel : Nat} {f : FuncId} {args : List AV} {conc : Bool} {s s' : Sup} {res : AV} {cs : List Prop} (h : fcA g fuel f args conc s = .ok res s' cs) (hcs : ∀ p ∈ cs, p) : FC g.P f args res :=
  fcA_spec hg fuel f args conc s res s' cs h hcs
end
end Go.Ev
end

section
namespace Go.Ev

/-! ### Tables that hold -/

theorem look_mem {α : Type} : ∀ {l : List (Nat × α)} {n : Nat} {x : α}, look l n = some x → (n, x) ∈ l
  | [], _, _, h => by cases h
  | (k, y) :: l, n, x, h => by
    unfold look at h
    by_cases hk : (k == n) = true
    · rw [if_pos hk] at h
      cases h
      have : k = n := by simpa using hk
      subst this
      simp
    · rw [if_neg hk] at h
      exact List.mem_cons_of_mem _ (look_mem h)

/-- No function is the one that the model carries out itself. -/
def NamesOK (P : Program) : Prop := P.funcs.toList.all (fun fn => !(fn.name == "runtime.NumGoroutine")) = true

theorem fnOf_ok {P : Program} (h : NamesOK P) (f : FuncId) (fn : Func) (hl : fnOf P f = some fn) : P.funcs[f]? = some fn ∧ fn.body.isNone = false ∧ (fn.name == "runtime.NumGoroutine") = false := by
  unfold fnOf at hl
  split at hl
  · rename_i g hg
    split at hl
    · rename_i c hc
      cases hl
      have := List.all_eq_true.1 h fn (by simpa using Array.mem_of_getElem? hg)
      exact ⟨hg, by rw [hc]; rfl, by simpa using this⟩
    · cases hl
  · cases hl

/-- The contracts of a configuration as a list. -/
abbrev Ctr := List (FuncId × (List AV → M AV))
def ctrC (l : Ctr) (f : FuncId) (args : List AV) : M AV :=
  match look l f with
  | some c => c args
  | none => fail 120
def CtrOK (P : Program) (f : FuncId) (c : List AV → M AV) : Prop := ∀ args, args.all (isData 20) = true → Spec (c args) fun v => FC P f args v

def mkCfg (P : Program) (l : Ctr) (bw : List (FuncId × Nat)) (opt : List FuncId := []) (kd : List (TypeId × EK) := []) : Cfg := ⟨P, l.map Prod.fst, ctrC l, bw, opt, kd⟩

theorem mkCfg_ok {P : Program} {l : Ctr} {bw : List (FuncId × Nat)} {opt : List FuncId} {kd : List (TypeId × EK)} (hn : NamesOK P) (hm : P.follows .mixedOrders = true)
    (hl : ∀ p ∈ l, CtrOK P p.1 p.2) (hbw : ∀ p ∈ bw, BwOK P p.1 p.2) : (mkCfg P l bw opt kd).OK where
  F := fnOf_ok hn
  C := by
    intro f args _ ha
    change Spec (ctrC l f args) _
    unfold ctrC
    split
    · rename_i c hc
      exact hl _ (look_mem hc) args ha
    · exact Spec.fail
  mixed := hm
  bw gf ag h := hbw _ (look_mem h)

theorem CAll.cons {P : Program} {f : FuncId} {c : List AV → M AV} {l : Ctr} (h : CtrOK P f c) (hl : ∀ p ∈ l, CtrOK P p.1 p.2) : ∀ p ∈ (f, c) :: l, CtrOK P p.1 p.2 := by
  intro p hp
  rcases List.mem_cons.1 hp with rfl | hp
  · exact h
  · exact hl p hp
theorem CAll.nil {P : Program} : ∀ p ∈ ([] : Ctr), CtrOK P p.1 p.2 := fun _ hp => (by cases hp)

end Go.Ev
end

section
namespace Go.Ev
open Go.RowKit (Below)

/-! ### Short words for values -/
abbrev aI (n : Int) : AV := .lit (.int .i64 n)
abbrev aD (z : Int) : AV := .lit (.bool (decide (z < 0)))
abbrev aN : AV := .lit (.slice none 0 0)
abbrev aF : AV := .lit (.bool false)
abbrev aT : AV := .lit (.bool true)
abbrev aJ : AV := .junk

/-! ### Loops by their rounds -/

/-- All of them hold. -/
inductive AllC : List Prop → Prop
  | nil : AllC []
  | cons {p : Prop} {ps : List Prop} (h : p) (k : AllC ps) : AllC (p :: ps)
theorem AllC.mem {ps : List Prop} (h : AllC ps) : ∀ p ∈ ps, p := by
  induction h with
  | nil => intro p hp; cases hp
  | cons h _ ih =>
    intro p hp
    rcases List.mem_cons.1 hp with rfl | hp
    · exact h
    · exact ih p hp

/-- The loops of a code, the outer ones first. -/
def loopsOf : Code → List Code
  | .seq a b => loopsOf a ++ loopsOf b
  | .cond _ a b => loopsOf a ++ loopsOf b
  | .block _ b => loopsOf b
  | .loop b => b :: loopsOf b
  | .rangeFunc _ _ a b => loopsOf a ++ loopsOf b
  | _ => []
/-- The body of the k-th loop of a function. -/
def lpOf (P : Program) (f : FuncId) (k : Nat) : Code := match fnOf P f with
  | some fn => match fn.body with
    | some c => (loopsOf c).getD k .skip
    | none => .skip
  | none => .skip

/-- One round and on to a state of the family. -/
def rndA (g : Cfg) (fuel : Nat) (b : Code) (n0 : Nat) (src keep wr : List Nat) (st : St) (os : List (Nat × Bool)) (lp : List (Option LoopFn)) : Option (Ex × St × List Prop) :=
  match evA g fuel false b st false ⟨os, lp, 1000000, false⟩ with
  | .ok (ex, st1) ⟨[], [], _, _⟩ cs => match canon n0 src keep wr st1 with
    | some st2 => some (ex, st2, cs)
    | none => none
  | _ => none

def LS (n0 : Nat) (P : Program) (b : Code) (st : St) (r : Ex × St) : Prop := ∃ st1, AW P b st (r.1, st1) ∧ Weak n0 st1 r.2

theorem LS.of {g : Cfg} (hg : g.OK) {fuel : Nat} {b : Code} {n0 : Nat} {src keep wr : List Nat} {st st2 : St} {os : List (Nat × Bool)} {lp : List (Option LoopFn)} {ex : Ex} {cs : List Prop}
    (h : rndA g fuel b n0 src keep wr st os lp = some (ex, st2, cs)) (hc : AllC cs) : LS n0 g.P b st (ex, st2) := by
  unfold rndA at h
  split at h
  · rename_i ex1 st1 sk1 stop1 cs1 he
    split at h
    · rename_i st3 hk
      cases h
      exact ⟨st1, evA_spec hg fuel false b st false ⟨os, lp, 1000000, false⟩ (ex, st1) _ cs he hc.mem, canon_weak hk⟩
    · cases h
  · cases h

theorem Loops.go {n0 : Nat} {P : Program} {b : Code} {st st1 : St} {r : Ex × St} (h : LS n0 P b st (.normal, st1)) (k : Loops n0 P b st1 r) : Loops n0 P b st r := by
  obtain ⟨st2, h1, h2⟩ := h
  exact .step (h1.toN n0) (.weak h2 k)
theorem Loops.fin {n0 : Nat} {P : Program} {b : Code} {st st1 : St} {ex : Ex} (h : LS n0 P b st (ex, st1)) (he : ex.toExit ≠ .normal) : Loops n0 P b st (ex, st1) := by
  obtain ⟨st2, h1, h2⟩ := h
  exact .weakOut h2 (.out (h1.toN n0) he)

/-- A loop that has been shown from a state on. -/
def viaL (P : Program) (b : Code) (src keep wr : List Nat) (st0 : St) (r : Ex × St) : LoopFn := fun st =>
  match canon st.rows.length src keep wr st with
  | some st1 => some (r, [st1 = st0, Loops st.rows.length P b st0 r])
  | none => none
theorem viaL_ok {P : Program} {b : Code} {src keep wr : List Nat} {st0 : St} {r : Ex × St} : LoopOK P b (viaL P b src keep wr st0 r) := by
  intro st r' ps h hp
  unfold viaL at h
  split at h
  · rename_i st1 hk
    cases h
    have h1 : st1 = st0 := hp _ (List.mem_cons_self ..)
    have h2 : Loops st.rows.length P b st0 r := hp _ (List.mem_cons_of_mem _ (List.mem_cons_self ..))
    subst h1
    exact (Loops.weak (canon_weak hk) h2).aw
  · cases h

/-- A whole function: what it gives and what is to be shown. -/
def funA (g : Cfg) (fuel : Nat) (f : FuncId) (args : List AV) (os : List (Nat × Bool)) (lp : List (Option LoopFn)) : Option (AV × List Prop) :=
  match fcA g fuel f args false ⟨os, lp, 1000000, false⟩ with
  | .ok v ⟨[], [], _, _⟩ cs => some (v, cs)
  | _ => none
theorem fc_fun {g : Cfg} (hg : g.OK) {fuel : Nat} {f : FuncId} {args : List AV} {os : List (Nat × Bool)} {lp : List (Option LoopFn)} {v : AV} {cs : List Prop}
    (h : funA g fuel f args os lp = some (v, cs)) (hc : AllC cs) : FC g.P f args v := by
  unfold funA at h
  split at h
  · rename_i v1 sk1 stop1 cs1 he
    cases h
    exact fc_run hg he hc.mem
  · cases h

end Go.Ev
end

section
namespace Go.Ev

/-! ### Digits -/


def vl : List Int → Int
  | [] => 0
  | d :: l => d + (100000000 : Int) * vl l
def Digs (l : List Int) : Prop := ∀ d ∈ l, 0 ≤ d ∧ d < (100000000 : Int)

theorem vl_append (a b : List Int) : vl (a ++ b) = vl a + (100000000 : Int) ^ a.length * vl b := by
  induction a with
  | nil => simp [vl]
  | cons d a ih => simp only [List.cons_append, vl, ih, List.length_cons, Int.pow_succ]; rw [Int.mul_add, ← Int.mul_assoc, Int.mul_comm (100000000 : Int) ((100000000 : Int) ^ a.length)]; omega
theorem vl_snoc (a : List Int) (d : Int) : vl (a ++ [d]) = vl a + (100000000 : Int) ^ a.length * d := by
  rw [vl_append]; simp [vl]
theorem vl_neg (l : List Int) : vl (l.map fun d => -d) = - vl l := by
  induction l with
  | nil => rfl
  | cons d l ih => simp only [List.map_cons, vl, ih, Int.mul_neg]; omega
theorem pow_pos (n : Nat) : 0 < (100000000 : Int) ^ n := Int.pow_pos (by decide)

theorem vl_nonneg {l : List Int} (h : Digs l) : 0 ≤ vl l := by
  induction l with
  | nil => exact Int.le_refl _
  | cons d l ih =>
    have h1 := h d (by simp)
    have h2 := ih fun x hx => h x (by simp [hx])
    simp only [vl]; omega
theorem vl_lt {l : List Int} (h : Digs l) : vl l < (100000000 : Int) ^ l.length := by
  induction l with
  | nil => decide
  | cons d l ih =>
    have h1 := h d (by simp)
    have h2 := ih fun x hx => h x (by simp [hx])
    simp only [vl, List.length_cons, Int.pow_succ]; omega

/-- Without zeros at the end. -/
def trm : List Int → List Int
  | [] => []
  | d :: l => if trm l = [] ∧ d = 0 then [] else d :: trm l

theorem trm_zero (l : List Int) : trm (l ++ [0]) = trm l := by
  induction l with
  | nil => rfl
  | cons d l ih => simp only [List.cons_append, trm, ih]
theorem trm_last (l : List Int) (d : Int) (h : d ≠ 0) : trm (l ++ [d]) = l ++ [d] := by
  induction l with
  | nil => simp [trm, h]
  | cons x l ih => simp [List.cons_append, trm, ih]
theorem vl_trm (l : List Int) : vl (trm l) = vl l := by
  induction l with
  | nil => rfl
  | cons d l ih =>
    simp only [trm]
    split
    · rename_i h
      rw [h.1] at ih
      simp only [vl] at ih ⊢
      rw [← ih, h.2]; rfl
    · simp only [vl, ih]
theorem Digs.trm {l : List Int} (h : Digs l) : Digs (trm l) := by
  induction l with
  | nil => exact h
  | cons d l ih =>
    simp only [Ev.trm]
    split
    · intro x hx; cases hx
    · intro x hx
      rcases List.mem_cons.1 hx with rfl | hx
      · exact h _ (by simp)
      · exact ih (fun y hy => h y (by simp [hy])) x hx
theorem trm_length (l : List Int) : (trm l).length ≤ l.length := by
  induction l with
  | nil => exact Nat.le_refl _
  | cons d l ih =>
    simp only [trm]
    split
    · simp
    · simpa using ih

theorem digsF_eq : ∀ (f n : Nat), n ≤ f → digsF f n = digsF n n := by
  intro f
  induction f using Nat.strongRecOn with
  | _ f ih =>
    intro n hn
    cases f with
    | zero =>
      have : n = 0 := by omega
      subst this; rfl
    | succ f =>
      cases n with
      | zero => simp [digsF]
      | succ n =>
        simp only [digsF]
        rw [if_neg (by omega), if_neg (by omega)]
        have h1 : (n + 1) / 100000000 ≤ n := by omega
        rw [ih f (by omega) _ (by omega), ih n (by omega) _ h1]
theorem digs_zero : digs 0 = [] := rfl
theorem digs_step (n : Nat) (h : n ≠ 0) : digs n = ((n % 100000000 : Nat) : Int) :: digs (n / 100000000) := by
  cases n with
  | zero => exact absurd rfl h
  | succ n =>
    show digsF (n + 1) (n + 1) = _
    simp only [digsF]
    rw [if_neg (by omega), digsF_eq n _ (by omega)]
    rfl
theorem vl_digs (n : Nat) : vl (digs n) = n := by
  induction n using Nat.strongRecOn with
  | _ n ih =>
    by_cases h : n = 0
    · subst h; rfl
    · rw [digs_step n h]
      simp only [vl]
      rw [ih _ (by omega)]
      omega
theorem Digs_digs (n : Nat) : Digs (digs n) := by
  induction n using Nat.strongRecOn with
  | _ n ih =>
    by_cases h : n = 0
    · subst h; intro d hd; cases hd
    · rw [digs_step n h]
      intro d hd
      rcases List.mem_cons.1 hd with rfl | hd
      · omega
      · exact ih _ (by omega) d hd
theorem digs_nil (n : Nat) : digs n = [] ↔ n = 0 := by
  constructor
  · intro h
    by_cases h0 : n = 0
    · exact h0
    · rw [digs_step n h0] at h; cases h
  · rintro rfl; rfl
theorem digs_length (n k : Nat) (h : n < 100000000 ^ k) : (digs n).length ≤ k := by
  induction k generalizing n with
  | zero =>
    have : n = 0 := by simpa using h
    subst this; simp [digs_zero]
  | succ k ih =>
    by_cases h0 : n = 0
    · subst h0; simp [digs_zero]
    · rw [digs_step n h0, List.length_cons]
      have := ih (n / 100000000) (by rw [Nat.pow_succ] at h; omega)
      omega
theorem digs_lt (n : Nat) : n < 100000000 ^ (digs n).length := by
  have h1 := vl_lt (Digs_digs n)
  rw [vl_digs] at h1
  have h2 : ((100000000 : Int) ^ (digs n).length : Int) = ((100000000 ^ (digs n).length : Nat) : Int) := (Int.natCast_pow 100000000 _).symm
  omega

theorem trm_digs {l : List Int} (h : Digs l) : trm l = digs (vl l).toNat := by
  induction l with
  | nil => rfl
  | cons d l ih =>
    have h1 := h d (by simp)
    have hl : Digs l := fun x hx => h x (by simp [hx])
    have h2 := vl_nonneg hl
    have ih := ih hl
    simp only [trm, vl]
    by_cases hz : (d + (100000000 : Int) * vl l).toNat = 0
    · have hv : vl l = 0 := by omega
      have hd : d = 0 := by omega
      rw [hz, digs_zero, ih, hv, if_pos ⟨rfl, hd⟩]
    · rw [digs_step _ hz]
      have e1 : (d + (100000000 : Int) * vl l).toNat / 100000000 = (vl l).toNat := by omega
      have e2 : (((d + (100000000 : Int) * vl l).toNat % 100000000 : Nat) : Int) = d := by omega
      rw [e1, e2, ih]
      rw [if_neg]
      rintro ⟨h3, h4⟩
      rw [digs_nil] at h3
      omega
/-- A list of digits whose last one isn't 0 is that of its number. -/
theorem digs_vl {l : List Int} (h : Digs l) (ht : trm l = l) : digs (vl l).toNat = l := by rw [← trm_digs h, ht]
theorem trm_digs_self (n : Nat) : trm (digs n) = digs n := by
  rw [trm_digs (Digs_digs n), vl_digs]; simp

theorem nform_vl (z : Int) : vl (nform z) = z := by
  unfold nform
  split
  · rw [vl_neg, vl_digs]; omega
  · rw [vl_digs]; omega

end Go.Ev
end

section
namespace Go.Ev
open Go.RowKit (Below)

/-! ### Integers as structs of a sign and digits; contracts in other words -/

def W (z : Int) : AV := .agg [.lit (.bool (decide (z < 0))), .wd z]

theorem FC.res {P : Program} {f : FuncId} {args : List AV} {r r' : AV} (h : FC P f args r) (k : ∀ (E : Env) (v : Value), Rd E r v → Rd E r' v) : FC P f args r' := by
  intro M w vs hM hl ha
  refine (h M w vs hM hl ha).mono ?_
  rintro e w' ⟨v, he, hb, hr⟩
  exact ⟨v, he, hb, k _ _ hr⟩
theorem FC.args {P : Program} {f : FuncId} {args args' : List AV} {r : AV} (h : FC P f args r) (hl : args.length = args'.length) (k : ∀ (E : Env) (v : Value) (i : Nat), i < args.length → Rd E (args'.getD i .junk) v → Rd E (args.getD i .junk) v) :
    FC P f args' r := by
  intro M w vs hM hl2 ha
  exact h M w vs hM (by omega) fun i hi => k _ _ i hi (ha i (by omega))
theorem FC.arg1 {P : Program} {f : FuncId} {x x' r : AV} (h : FC P f [x] r) (k : ∀ (E : Env) (v : Value), Rd E x' v → Rd E x v) : FC P f [x'] r :=
  h.args rfl fun E v i hi hr => by
    have : i = 0 := by simp at hi; omega
    subst this; exact k E v hr
theorem FC.arg2 {P : Program} {f : FuncId} {x x' y y' r : AV} (h : FC P f [x, y] r) (k : ∀ (E : Env) (v : Value), Rd E x' v → Rd E x v) (k2 : ∀ (E : Env) (v : Value), Rd E y' v → Rd E y v) : FC P f [x', y'] r :=
  h.args rfl fun E v i hi hr => by
    have : i = 0 ∨ i = 1 := by simp at hi; omega
    rcases this with rfl | rfl
    · exact k E v hr
    · exact k2 E v hr

theorem Rd.toSq {E : Env} {x : AV} {l : List Int} {v : Value} (hx : ints? x = some l) (h : Rd E x v) : Rd E (.sq l) v := by
  obtain ⟨a, cap, rfl, hc, hi⟩ := ints_inv hx h
  exact .sq hi hc
theorem Rd.sqWd {E : Env} {l : List Int} {z : Int} {v : Value} (hl : l = digs z.natAbs) (h : Rd E (.sq l) v) : Rd E (.wd z) v := by
  subst hl
  cases h with
  | sq hi hc => exact .wd hi hc
theorem Rd.toWd {E : Env} {x : AV} {l : List Int} {z : Int} {v : Value} (hx : ints? x = some l) (hl : l = digs z.natAbs) (h : Rd E x v) : Rd E (.wd z) v := (h.toSq hx).sqWd hl
theorem Rd.toNi {E : Env} {x : AV} {l : List Int} {z : Int} {v : Value} (hx : ints? x = some l) (hl : l = nform z) (h : Rd E x v) : Rd E (.ni z) v := by
  subst hl
  cases h.toSq hx with
  | sq hi hc => exact .ni hi hc

theorem Rd.agg2 {E : Env} {x y x' y' : AV} {v : Value} (h : Rd E (.agg [x, y]) v) (kx : ∀ u, Rd E x u → Rd E x' u) (ky : ∀ u, Rd E y u → Rd E y' u) : Rd E (.agg [x', y']) v := by
  cases h with
  | agg hl hr =>
    refine .agg hl fun i hi => ?_
    have : i = 0 ∨ i = 1 := by simp at hi; omega
    rcases this with rfl | rfl
    · exact kx _ (hr 0 (by simp))
    · exact ky _ (hr 1 (by simp))
theorem Rd.tup2 {E : Env} {x y x' y' : AV} {v : Value} (h : Rd E (.tup [x, y]) v) (kx : ∀ u, Rd E x u → Rd E x' u) (ky : ∀ u, Rd E y u → Rd E y' u) : Rd E (.tup [x', y']) v := by
  cases h with
  | tup hl hr =>
    refine .tup hl fun i hi => ?_
    have : i = 0 ∨ i = 1 := by simp at hi; omega
    rcases this with rfl | rfl
    · exact kx _ (hr 0 (by simp))
    · exact ky _ (hr 1 (by simp))
theorem Rd.toW {E : Env} {s x : AV} {b : Bool} {l : List Int} {z : Int} {v : Value} (hs : Ev.asB s = some b) (hx : ints? x = some l) (hb : b = decide (z < 0)) (hl : l = digs z.natAbs) (h : Rd E (.agg [s, x]) v) : Rd E (W z) v :=
  h.agg2 (fun u hu => by rw [hu.asB hs, hb]; exact .lit _) (fun _ hu => hu.toWd hx hl)

/-! ### Tests of conditions, and values reckoned, for runs over known values -/

class Tst (p : Prop) where
  b : Bool
  ok : b = true → p
instance (priority := low) tstNo {p : Prop} : Tst p := ⟨false, fun h => by cases h⟩
instance tstTrue : Tst True := ⟨true, fun _ => trivial⟩
instance tstAnd {p q : Prop} [hp : Tst p] [hq : Tst q] : Tst (p ∧ q) := ⟨match hp.b with | true => hq.b | false => false, fun h => by
  split at h
  · rename_i h1; exact ⟨hp.ok h1, hq.ok h⟩
  · cases h⟩
instance tstDec {p : Prop} [h : Decidable p] : Tst p := ⟨decide p, fun e => of_decide_eq_true e⟩

mutual
def forceA {α : Type} : Nat → AV → (AV → α) → α
  | 0, x, k => k x
  | f + 1, x, k => match x with
    | .lit (.int t z) => forceI z fun y => k (.lit (.int t y))
    | .lit (.bool b) => match b with
      | true => k (.lit (.bool true))
      | false => k (.lit (.bool false))
    | .wd z => forceI z fun y => k (.wd y)
    | .ni z => forceI z fun y => k (.ni y)
    | .agg cs => forceL f cs fun cs => k (.agg cs)
    | .tup cs => forceL f cs fun cs => k (.tup cs)
    | x => k x
def forceL {α : Type} : Nat → List AV → (List AV → α) → α
  | 0, l, k => k l
  | f + 1, l, k => match l with
    | [] => k []
    | x :: l => forceA f x fun y => forceL f l fun q => k (y :: q)
end
theorem force_eq {α : Type} : ∀ f, (∀ x (k : AV → α), forceA f x k = k x) ∧ (∀ l (k : List AV → α), forceL f l k = k l)
  | 0 => ⟨fun _ _ => by simp [forceA], fun _ _ => by simp [forceL]⟩
  | f + 1 => by
    have ih := force_eq (α := α) f
    constructor
    · intro x k
      unfold forceA
      split
      · rw [forceI_eq]
      · split <;> rfl
      · rw [forceI_eq]
      · rw [forceI_eq]
      · rw [ih.2]
      · rw [ih.2]
      · rfl
    · intro l k
      unfold forceL
      split
      · rfl
      · rw [ih.1, ih.2]
/-- A result, reckoned where the values are known. -/
def gives (x : AV) : M AV := fun c s =>
  match c with
  | true => forceA 20 x fun y => .ok y s []
  | false => .ok x s []
theorem Spec.gives {x : AV} {Q : AV → Prop} (h : Q x) : Spec (gives x) Q := by
  intro c s y s' cs he _
  cases c with
  | true =>
    simp only [Ev.gives, (force_eq 20).1, Res.ok.injEq] at he
    exact he.1 ▸ h
  | false =>
    simp only [Ev.gives, Res.ok.injEq] at he
    exact he.1 ▸ h

/-- An argument that is an integer. -/
def asW (x : AV) : M Int := do
  let l ← ofOpt 200 (asAggL x)
  match l with
  | [s, .wd z] => do
    let b ← ofOpt 201 (asB s)
    tellD (b = decide (z < 0)) (boolEq b (decide (z < 0)))
    M.pure z
  | [s, d] => do
    let b ← ofOpt 201 (asB s)
    let q ← ofOpt 202 (ints? d)
    match q with
    | [] => do
      tellD (b = false) (boolEq b false)
      M.pure 0
    | _ => fail 203
  | _ => fail 204

theorem aggL_rd {E : Env} {x : AV} {l : List AV} {v : Value} (hx : asAggL x = some l) (h : Rd E x v) : Rd E (.agg l) v := by
  cases x <;> simp [asAggL] at hx
  · rename_i u
    cases u <;> simp at hx
    rename_i a
    subst hx
    have hv : v = .agg a := by cases h; rfl
    subst hv
    refine .agg (by simp) fun i hi => ?_
    have hi' : i < a.size := by simpa using hi
    have e : (a.toList.map AV.lit).getD i .junk = .lit (a.getD i undef) := by simp [List.getD, hi', Array.getD]
    rw [e]; exact .lit _
  · subst hx; exact h

theorem asW_spec {x : AV} : Spec (asW x) fun z => ∀ (E : Env) (v : Value), Rd E x v → Rd E (W z) v := by
  unfold asW
  refine Spec.bind (Spec.ofOpt fun l hl => ?_)
  split
  · refine Spec.bind (Spec.ofOpt fun b hb => Spec.bind (Spec.tellD boolEq_eq fun ht => Spec.pure' fun E v h => ?_))
    exact (aggL_rd hl h).agg2 (fun u hu => by rw [hu.asB hb, ht]; exact .lit _) (fun _ hu => hu)
  · refine Spec.bind (Spec.ofOpt fun b hb => Spec.bind (Spec.ofOpt fun q hq => ?_))
    split
    · refine Spec.bind (Spec.tellD boolEq_eq fun ht => Spec.pure' fun E v h => ?_)
      exact (aggL_rd hl h).agg2 (fun u hu => by rw [hu.asB hb, ht]; exact .lit _) (fun _ hu => hu.toWd hq rfl)
    · exact Spec.fail
  · exact Spec.fail

/-- How many digits. -/
def dl (z : Int) : Nat := (digs z.natAbs).length
/-- An integer that isn't too long for whatever the code does with its length. -/
def fits (z : Int) : Prop := dl z ≤ 1048576
theorem fits_log {z : Int} (h : Nat.log2 z.natAbs ≤ 100000) : fits z := by
  have h1 : z.natAbs < 2 ^ (Nat.log2 z.natAbs + 1) := Nat.lt_log2_self
  have h2 : 2 ^ (Nat.log2 z.natAbs + 1) ≤ 100000000 ^ (Nat.log2 z.natAbs + 1) := Nat.pow_le_pow_left (by decide) _
  have h3 := digs_length z.natAbs (Nat.log2 z.natAbs + 1) (Nat.lt_of_lt_of_le h1 h2)
  unfold fits dl
  omega
instance tstFits {z : Int} : Tst (fits z) := ⟨Nat.ble (Nat.log2 z.natAbs) 100000, fun h => fits_log (Nat.le_of_ble_eq_true h)⟩

/-- A contract over one integer, over two. -/
def c1 (p : Int → Prop) [∀ a, Tst (p a)] (r : Int → AV) (args : List AV) : M AV := match args with
  | [x] => do
    let a ← asW x
    tellD (p a) (Tst.b (p a))
    gives (r a)
  | _ => fail 210
def c2 (p : Int → Int → Prop) [∀ a b, Tst (p a b)] (r : Int → Int → AV) (args : List AV) : M AV := match args with
  | [x, y] => do
    let a ← asW x
    let b ← asW y
    tellD (p a b) (Tst.b (p a b))
    gives (r a b)
  | _ => fail 211
theorem c1_ok {P : Program} {f : FuncId} {p : Int → Prop} [∀ a, Tst (p a)] {r : Int → AV} (h : ∀ a, p a → FC P f [W a] (r a)) : CtrOK P f (c1 p r) := by
  intro args _
  unfold c1
  split
  · exact Spec.bind (asW_spec.mono fun a ha => Spec.bind (Spec.tellD Tst.ok fun hp => Spec.gives ((h a hp).arg1 ha)))
  · exact Spec.fail
theorem c2_ok {P : Program} {f : FuncId} {p : Int → Int → Prop} [∀ a b, Tst (p a b)] {r : Int → Int → AV} (h : ∀ a b, p a b → FC P f [W a, W b] (r a b)) : CtrOK P f (c2 p r) := by
  intro args _
  unfold c2
  split
  · exact Spec.bind (asW_spec.mono fun a ha => Spec.bind (asW_spec.mono fun b hb => Spec.bind (Spec.tellD Tst.ok fun hp => Spec.gives ((h a b hp).arg2 ha hb))))
  · exact Spec.fail

/-- Lists of integers. -/
def cL (p : List Int → Prop) [∀ a, Tst (p a)] (r : List Int → AV) (args : List AV) : M AV := match args with
  | [x] => do
    let l ← ofOpt 212 (ints? x)
    tellD (p l) (Tst.b (p l))
    gives (r l)
  | _ => fail 213
theorem cL_ok {P : Program} {f : FuncId} {p : List Int → Prop} [∀ a, Tst (p a)] {r : List Int → AV} (h : ∀ l, p l → FC P f [.sq l] (r l)) : CtrOK P f (cL p r) := by
  intro args _
  unfold cL
  split
  · exact Spec.bind (Spec.ofOpt fun l hl => Spec.bind (Spec.tellD Tst.ok fun hp => Spec.gives ((h l hp).arg1 fun E v hv => hv.toSq hl)))
  · exact Spec.fail
def cLL (p : List Int → List Int → Prop) [∀ a b, Tst (p a b)] (r : List Int → List Int → AV) (args : List AV) : M AV := match args with
  | [x, y] => do
    let l ← ofOpt 212 (ints? x)
    let q ← ofOpt 212 (ints? y)
    tellD (p l q) (Tst.b (p l q))
    gives (r l q)
  | _ => fail 213
theorem cLL_ok {P : Program} {f : FuncId} {p : List Int → List Int → Prop} [∀ a b, Tst (p a b)] {r : List Int → List Int → AV} (h : ∀ l q, p l q → FC P f [.sq l, .sq q] (r l q)) : CtrOK P f (cLL p r) := by
  intro args _
  unfold cLL
  split
  · exact Spec.bind (Spec.ofOpt fun l hl => Spec.bind (Spec.ofOpt fun q hq => Spec.bind (Spec.tellD Tst.ok fun hp => Spec.gives ((h l q hp).arg2 (fun E v hv => hv.toSq hl) (fun E v hv => hv.toSq hq)))))
  · exact Spec.fail
/-- Ints. -/
def cI (p : Int → Prop) [∀ a, Tst (p a)] (r : Int → AV) (args : List AV) : M AV := match args with
  | [.lit (.int .i64 n)] => do
    tellD (p n) (Tst.b (p n))
    gives (r n)
  | _ => fail 214
theorem cI_ok {P : Program} {f : FuncId} {p : Int → Prop} [∀ a, Tst (p a)] {r : Int → AV} (h : ∀ n, p n → FC P f [.lit (.int .i64 n)] (r n)) : CtrOK P f (cI p r) := by
  intro args _
  unfold cI
  split
  · exact Spec.bind (Spec.tellD Tst.ok fun hp => Spec.gives (h _ hp))
  · exact Spec.fail

theorem inR64 {n : Int} : inR .i64 n = true ↔ -9223372036854775808 ≤ n ∧ n ≤ 9223372036854775807 := by
  unfold inR
  rw [Bool.and_eq_true, decide_eq_true_eq, decide_eq_true_eq]
  exact Iff.rfl

end Go.Ev
namespace Go.Ev
def cII (p : Int → Int → Prop) [∀ a b, Tst (p a b)] (r : Int → Int → AV) (args : List AV) : M AV := match args with
  | [.lit (.int .i64 a), .lit (.int .i64 b)] => do
    tellD (p a b) (Tst.b (p a b))
    gives (r a b)
  | _ => fail 215
theorem cII_ok {P : Program} {f : FuncId} {p : Int → Int → Prop} [∀ a b, Tst (p a b)] {r : Int → Int → AV} (h : ∀ a b, p a b → FC P f [.lit (.int .i64 a), .lit (.int .i64 b)] (r a b)) : CtrOK P f (cII p r) := by
  intro args _
  unfold cII
  split
  · exact Spec.bind (Spec.tellD Tst.ok fun hp => Spec.gives (h _ _ hp))
  · exact Spec.fail
/-- Digits of a number. -/
def asD (x : AV) : M Int := match x with
  | .wd z => M.pure z
  | x => do
    let q ← ofOpt 205 (ints? x)
    match q with
    | [] => M.pure 0
    | _ => fail 206
theorem asD_spec {x : AV} : Spec (asD x) fun z => ∀ (E : Env) (v : Value), Rd E x v → Rd E (.wd z) v := by
  unfold asD
  split
  · exact Spec.pure' fun E v h => h
  · refine Spec.bind (Spec.ofOpt fun q hq => ?_)
    split
    · exact Spec.pure' fun E v h => h.toWd hq rfl
    · exact Spec.fail
def cDD (p : Int → Int → Prop) [∀ a b, Tst (p a b)] (r : Int → Int → AV) (args : List AV) : M AV := match args with
  | [x, y] => do
    let a ← asD x
    let b ← asD y
    tellD (p a b) (Tst.b (p a b))
    gives (r a b)
  | _ => fail 216
theorem cDD_ok {P : Program} {f : FuncId} {p : Int → Int → Prop} [∀ a b, Tst (p a b)] {r : Int → Int → AV} (h : ∀ a b, p a b → FC P f [.wd a, .wd b] (r a b)) : CtrOK P f (cDD p r) := by
  intro args _
  unfold cDD
  split
  · exact Spec.bind (asD_spec.mono fun a ha => Spec.bind (asD_spec.mono fun b hb => Spec.bind (Spec.tellD Tst.ok fun hp => Spec.gives ((h a b hp).arg2 ha hb))))
  · exact Spec.fail

/-- An argument that is one of two, known only when it comes. -/
theorem FC.cases1 {P : Program} {f : FuncId} {x r : AV} (h : ∀ (E : Env) (v : Value), Rd E x v → ∃ y, Rd E y v ∧ (∀ E' : Env, Rd E' y v) ∧ FC P f [y] r) : FC P f [x] r := by
  intro M w vs hM hl ha
  have hx : Rd ⟨w.heap, M, []⟩ x (vs.getD 0 undef) := ha 0 (by simp)
  obtain ⟨y, hy, _, hf⟩ := h _ _ hx
  exact hf M w vs hM hl fun i hi => by
    have : i = 0 := by simp at hi; omega
    subst this; exact hy
end Go.Ev
end

section
namespace Go.Ev

/-! ### One abstract value serves for another -/

theorem Le.agg {l q : List AV} (h : LeL l q) : Le (.agg l) (.agg q) := by
  intro E v hr
  cases hr with
  | agg hl hc => exact .agg (by rw [← h.length]; exact hl) fun i hi => h.getD i _ _ (hc i (by rw [h.length]; exact hi))
theorem Le.tup {l q : List AV} (h : LeL l q) : Le (.tup l) (.tup q) := by
  intro E v hr
  cases hr with
  | tup hl hc => exact .tup (by rw [← h.length]; exact hl) fun i hi => h.getD i _ _ (hc i (by rw [h.length]; exact hi))
theorem Le.pd {l q : List AV} {n : Nat} (h : LeL l q) : Le (.pd l n) (.pd q n) := by
  intro E v hr
  cases hr with
  | pd vals hs hM hv hc2 => exact .pd vals hs hM (fun i hi => hv i (by rw [h.length]; exact hi)) fun i hi => h.getD i _ _ (hc2 i (by rw [h.length]; exact hi))
theorem Le.sl_zl (k : ZK) (l : List Int) : Le (.sl (zcells k l) l.length) (.zl k l) := fun _ _ h => .zl h
theorem Le.zl_sl (k : ZK) (l : List Int) : Le (.zl k l) (.sl (zcells k l) l.length) := fun _ _ h => by cases h with | zl h => exact h
theorem Le.nil_zl (k : ZK) (a : Option Addr) (c : Nat) : Le (.lit (.slice a 0 c)) (.zl k []) := fun E v h => by
  have := h.lit_inv
  subst this
  exact .zl .sl0
theorem Le.toW {s d : AV} {b : Bool} {q : List Int} {z : Int} (hs : asB s = some b) (hd : ints? d = some q) (hb : b = decide (z < 0)) (hq : q = digs z.natAbs) : LeL [s, d] (zcell .W z) :=
  .cons (fun E u h => by rw [h.asB hs, hb]; exact .lit _) (.cons (fun E u h => h.toWd hd hq) .nil)
theorem Le.ofBool {s : AV} {b : Bool} (hs : asB s = some b) : Le s (.lit (.bool b)) := fun E u h => by rw [h.asB hs]; exact .lit _
theorem FC.le {P : Program} {f : FuncId} {args args' : List AV} {r r' : AV} (h : FC P f args r) (ha : LeL args' args) (hr : Le r r') : FC P f args' r' :=
  (h.args (args' := args') ha.length.symm fun E v i _ hv => ha.getD i E v hv).res hr
/-! ### Slices of integers as structs -/

def wsOf : List AV → M (List Int)
  | [] => M.pure []
  | [_] => fail 220
  | s :: d :: l => do
    let z ← asW (.agg [s, d])
    let q ← wsOf l
    M.pure (z :: q)
def asWs : AV → M (List Int)
  | .zl .W l => M.pure l
  | .lit (.slice _ 0 _) => M.pure []
  | .sl cells n => do
    let l ← wsOf cells
    if l.length = n then M.pure l else fail 221
  | _ => fail 222

theorem agg_pair {s d s' d' : AV} (h : Le (.agg [s, d]) (.agg [s', d'])) {E : Env} {u v : Value} (hu : Rd E s u) (hv : Rd E d v) : Rd E s' u ∧ Rd E d' v := by
  have h1 : Rd E (.agg [s, d]) (.agg #[u, v]) := .agg rfl fun i hi => by
    have : i = 0 ∨ i = 1 := by simp at hi; omega
    rcases this with rfl | rfl
    · exact hu
    · exact hv
  have h2 := h _ _ h1
  cases h2 with
  | agg hl hr => exact ⟨hr 0 (by simp), hr 1 (by simp)⟩

/-- Cells that stand for integers: of each two cells the values are those of an integer. -/
theorem wsOf_rd : ∀ {cells : List AV}, Spec (wsOf cells) fun l => cells.length = 2 * l.length ∧ ∀ (E : Env) (vals : Nat → Value), (∀ i, i < cells.length → Rd E (cells.getD i .junk) (vals i)) →
    ∀ i, i < (zcells .W l).length → Rd E ((zcells .W l).getD i .junk) (vals i)
  | [] => Spec.pure' ⟨rfl, fun _ _ _ i hi => (by simp [zcells] at hi)⟩
  | [_] => Spec.fail
  | s :: d :: cells => by
    unfold wsOf
    refine Spec.bind (asW_spec.mono fun z hz => Spec.bind ((wsOf_rd (cells := cells)).mono fun l hl => Spec.pure' ⟨by simp [hl.1]; omega, fun E vals hv i hi => ?_⟩))
    have h2 := agg_pair (s' := .lit (.bool (decide (z < 0)))) (d' := .wd z) hz (hv 0 (by simp)) (hv 1 (by simp))
    have h3 := hl.2 E (fun i => vals (i + 2)) (fun i hi => by simpa using hv (i + 2) (by simp; omega))
    match i, hi with
    | 0, _ => exact h2.1
    | 1, _ => exact h2.2
    | i + 2, hi => exact h3 i (by simpa [zcells, zcell] using hi)

theorem zcells_length : ∀ (k : ZK) (l : List Int), (zcells k l).length = (match k with | .W => 2 | .N => 1) * l.length
  | k, [] => by cases k <;> rfl
  | k, z :: l => by
    have := zcells_length k l
    unfold zcells
    rw [List.length_append, this]
    cases k <;> simp [zcell] <;> omega
theorem asWs_spec {x : AV} : Spec (asWs x) fun l => Le x (.zl .W l) := by
  unfold asWs
  split
  · exact Spec.pure' (Le.refl _)
  · exact Spec.pure' (Le.nil_zl _ _ _)
  · refine Spec.bind (wsOf_rd.mono fun l hl => ?_)
    split
    · rename_i cells n hn
      refine Spec.pure' fun E v h => .zl ?_
      cases h with
      | sl0 => rw [hn]; exact .sl0
      | sl vals hs hM hc hv hr =>
        rw [hn]
        have hlen : (zcells .W l).length = cells.length := by rw [zcells_length, hl.1]
        exact .sl vals hs hM hc (fun i hi => hv i (by omega)) (hl.2 E vals hr)
    · exact Spec.fail
  · exact Spec.fail

/-- A contract over a slice of integers and two integers. -/
def cPWW (p : List Int → Int → Int → Prop) [∀ l a b, Tst (p l a b)] (r : List Int → Int → Int → AV) (args : List AV) : M AV := match args with
  | [x, y, z] => do
    let l ← asWs x
    let a ← asW y
    let b ← asW z
    tellD (p l a b) (Tst.b (p l a b))
    gives (r l a b)
  | _ => fail 223
theorem cPWW_ok {P : Program} {f : FuncId} {p : List Int → Int → Int → Prop} [∀ l a b, Tst (p l a b)] {r : List Int → Int → Int → AV} (h : ∀ l a b, p l a b → FC P f [.zl .W l, W a, W b] (r l a b)) : CtrOK P f (cPWW p r) := by
  intro args _
  unfold cPWW
  split
  · exact Spec.bind (asWs_spec.mono fun l hl => Spec.bind (asW_spec.mono fun a ha => Spec.bind (asW_spec.mono fun b hb => Spec.bind (Spec.tellD Tst.ok fun hp =>
      Spec.gives ((h l a b hp).le (.cons hl (.cons ha (.cons hb .nil))) (Le.refl _))))))
  · exact Spec.fail
/-- A contract over a slice of integers. -/
def cP (p : List Int → Prop) [∀ l, Tst (p l)] (r : List Int → AV) (args : List AV) : M AV := match args with
  | [x] => do
    let l ← asWs x
    tellD (p l) (Tst.b (p l))
    gives (r l)
  | _ => fail 224
theorem cP_ok {P : Program} {f : FuncId} {p : List Int → Prop} [∀ l, Tst (p l)] {r : List Int → AV} (h : ∀ l, p l → FC P f [.zl .W l] (r l)) : CtrOK P f (cP p r) := by
  intro args _
  unfold cP
  split
  · exact Spec.bind (asWs_spec.mono fun l hl => Spec.bind (Spec.tellD Tst.ok fun hp => Spec.gives ((h l hp).le (.cons hl .nil) (Le.refl _))))
  · exact Spec.fail
end Go.Ev
end

section
namespace Go.Ev

/-! ### How long integers are -/

/-- At most k digits. -/
def Sz (k : Nat) (z : Int) : Prop := z.natAbs < 100000000 ^ k
theorem fits_of_sz {k : Nat} {z : Int} (h : Sz k z) (hk : k ≤ 1048576) : fits z := by
  have := digs_length z.natAbs k h
  unfold fits dl
  omega
theorem Sz.mono {j k : Nat} {z : Int} (h : Sz j z) (hk : j ≤ k) : Sz k z := Nat.lt_of_lt_of_le h (Nat.pow_le_pow_right (by decide) hk)
theorem Sz.mul {j k : Nat} {a b : Int} (ha : Sz j a) (hb : Sz k b) : Sz (j + k) (a * b) := by
  unfold Sz at *
  rw [Int.natAbs_mul, Nat.pow_add]
  have h0 : 0 < 100000000 ^ j := Nat.pow_pos (by decide)
  rcases Nat.eq_zero_or_pos b.natAbs with h | h
  · rw [h, Nat.mul_zero]; exact Nat.mul_pos h0 (Nat.pow_pos (by decide))
  · exact Nat.lt_of_lt_of_le (Nat.mul_lt_mul_of_pos_right ha h) (Nat.mul_le_mul_left _ (Nat.le_of_lt hb))
theorem Sz.add {j k m : Nat} {a b : Int} (ha : Sz j a) (hb : Sz k b) (hj : j < m) (hk : k < m) : Sz m (a + b) := by
  have h1 := (ha.mono (Nat.le_pred_of_lt hj))
  have h2 := (hb.mono (Nat.le_pred_of_lt hk))
  unfold Sz at *
  have h3 : (a + b).natAbs ≤ a.natAbs + b.natAbs := Int.natAbs_add_le a b
  obtain ⟨i, rfl⟩ : ∃ i, m = i + 1 := ⟨m - 1, by omega⟩
  simp only [Nat.pred_succ] at h1 h2
  rw [Nat.pow_succ]
  omega
theorem Sz.neg {k : Nat} {a : Int} (h : Sz k a) : Sz k (-a) := by unfold Sz at *; rw [Int.natAbs_neg]; exact h
theorem Sz.zero {k : Nat} : Sz k 0 := by unfold Sz; simp; exact Nat.pow_pos (by decide)
theorem Sz.lit {z : Int} {k : Nat} (h : z.natAbs < 100000000) (hk : 0 < k) : Sz k z := (show Sz 1 z by unfold Sz; rw [Nat.pow_one]; exact h).mono hk
theorem Sz.le {k : Nat} {a b : Int} (h : Sz k b) (hab : a.natAbs ≤ b.natAbs) : Sz k a := Nat.lt_of_le_of_lt hab h
theorem Sz.i64 {z : Int} (h : -9223372036854775808 ≤ z) (h2 : z ≤ 9223372036854775807) {k : Nat} (hk : 3 ≤ k) : Sz k z :=
  (show Sz 3 z by unfold Sz; omega).mono hk
theorem pow26 (k : Nat) : 2 ^ (26 * k) ≤ 100000000 ^ k := by
  rw [Nat.pow_mul]; exact Nat.pow_le_pow_left (by decide) _
instance tstSz {k : Nat} {z : Int} : Tst (Sz k z) := ⟨Nat.blt (Nat.log2 z.natAbs) (26 * k), fun h => by
  have h1 : Nat.log2 z.natAbs < 26 * k := by simpa [Nat.blt_eq] using h
  have h2 : z.natAbs < 2 ^ (Nat.log2 z.natAbs + 1) := Nat.lt_log2_self
  have h3 : 2 ^ (Nat.log2 z.natAbs + 1) ≤ 2 ^ (26 * k) := Nat.pow_le_pow_right (by decide) h1
  exact Nat.lt_of_lt_of_le h2 (Nat.le_trans h3 (pow26 k))⟩
/-- All of a list. -/
def SzL (k : Nat) : List Int → Prop
  | [] => True
  | z :: l => Sz k z ∧ SzL k l
def szLB (k : Nat) : List Int → Bool
  | [] => true
  | z :: l => match Tst.b (Sz k z) with | true => szLB k l | false => false
theorem szLB_ok {k : Nat} : ∀ {l : List Int}, szLB k l = true → SzL k l
  | [], _ => trivial
  | z :: l, h => by
    unfold szLB at h
    split at h
    · rename_i h1; exact ⟨Tst.ok h1, szLB_ok h⟩
    · cases h
instance tstSzL {k : Nat} {l : List Int} : Tst (SzL k l) := ⟨szLB k l, szLB_ok⟩
end Go.Ev
namespace Go.Ev
class SzC (z : Int) (k : outParam Nat) : Prop where
  ok : Sz k z
instance szMul {a b : Int} {j k : Nat} [ha : SzC a j] [hb : SzC b k] : SzC (a * b) (j + k) := ⟨ha.ok.mul hb.ok⟩
instance szAdd {a b : Int} {j k : Nat} [ha : SzC a j] [hb : SzC b k] : SzC (a + b) (max j k + 1) := ⟨ha.ok.add hb.ok (by omega) (by omega)⟩
instance szNeg {a : Int} {j : Nat} [ha : SzC a j] : SzC (-a) j := ⟨ha.ok.neg⟩
instance szZero : SzC 0 1 := ⟨Sz.zero⟩
instance szOne : SzC 1 1 := ⟨Sz.lit (by decide) (by decide)⟩
theorem fits_szc {z : Int} {k : Nat} [h : SzC z k] (hk : k ≤ 1048576) : fits z := fits_of_sz h.ok hk
end Go.Ev
end

section
namespace Go.Ev
/-- A contract at given arguments. -/
def cK (args0 : List AV) (r : AV) (args : List AV) : M AV := match eqAL 1000 args args0 with
  | true => M.pure r
  | false => fail 230
theorem cK_ok {P : Program} {f : FuncId} {args0 : List AV} {r : AV} (h : FC P f args0 r) : CtrOK P f (cK args0 r) := by
  intro args _
  unfold cK
  split
  · rename_i he
    rw [(eqA_eq 1000).2 _ _ he]
    exact Spec.pure' h
  · exact Spec.fail
/-- Contracts of one function, the first that fits. -/
def orC (a b : List AV → M AV) (args : List AV) : M AV := fun c s => match a args c s with
  | .fail _ => b args c s
  | r => r
theorem orC_ok {P : Program} {f : FuncId} {a b : List AV → M AV} (ha : CtrOK P f a) (hb : CtrOK P f b) : CtrOK P f (orC a b) := by
  intro args hd c s x s' cs he hcs
  unfold orC at he
  split at he
  · exact hb args hd c s x s' cs he hcs
  · exact ha args hd c s x s' cs he hcs
/-- A whole function over known values: what is left to be shown. -/
theorem fc_conc {g : Cfg} (hg : g.OK) {fuel : Nat} {f : FuncId} {args : List AV} {res : AV} (h : (match fcA g fuel f args true ⟨[], [], 0, false⟩ with | .ok v _ [] => eqA 1000 v res | _ => false) = true) : FC g.P f args res := by
  split at h
  · rename_i v s he
    have h2 := (eqA_eq 1000).1 _ _ h
    subst h2
    exact fc_run hg he (fun p hp => by cases hp)
  · cases h
end Go.Ev
namespace Go.Ev
/-- A whole function over known values: what it gives and what is left to be shown. -/
def conA (g : Cfg) (fuel : Nat) (f : FuncId) (args : List AV) : Option (AV × List Prop) := match fcA g fuel f args true ⟨[], [], 0, false⟩ with
  | .ok v _ cs => some (v, cs)
  | _ => none
theorem fc_con {g : Cfg} (hg : g.OK) {fuel : Nat} {f : FuncId} {args : List AV} {v : AV} {cs : List Prop} (h : conA g fuel f args = some (v, cs)) (hc : AllC cs) : FC g.P f args v := by
  unfold conA at h
  split at h
  · rename_i v1 s1 cs1 he
    cases h
    exact fc_run hg he hc.mem
  · cases h
end Go.Ev
end

section
namespace Go.Ev

/-! ### Numbers of a field: four coefficients and a denominator; open fields -/

def nuA (a b c e d : Int) : AV := .agg (zcells .W [a, b, c, e, d])
def asNu (x : AV) : M (Int × Int × Int × Int × Int) := match x with
  | .agg cells => do
    let l ← wsOf cells
    match l with
    | [a, b, c, e, d] => M.pure (a, b, c, e, d)
    | _ => fail 250
  | _ => fail 251
theorem Le.junk (x : AV) : Le x .junk := fun _ _ _ => .junk _
theorem asNu_spec {x : AV} : Spec (asNu x) fun p => Le x (nuA p.1 p.2.1 p.2.2.1 p.2.2.2.1 p.2.2.2.2) := by
  unfold asNu
  split
  · refine Spec.bind (wsOf_rd.mono fun l hl => ?_)
    split
    · refine Spec.pure' fun E v h => ?_
      cases h with
      | agg hlen hr => exact .agg (by rw [← hlen, hl.1]; rfl) (hl.2 E _ hr)
    · exact Spec.fail
  · exact Spec.fail
/-- An open field of which the polynomial is known, or that and the traces. -/
def reA (p : AV) : AV := .pd [.junk, .junk, .junk, .junk, p, .junk, .junk, .junk, .junk, .junk, .junk, .junk] 0
def reT (p t : AV) : AV := .pd [.junk, .junk, .junk, .junk, p, t, .junk, .junk, .junk, .junk, .junk, .junk] 0
def asReT (x : AV) : M (List Int × List Int) := match x with
  | .pd [_, _, _, _, p, t, _, _, _, _, _, _] 0 => do
    let p ← asWs p
    let t ← asWs t
    M.pure (p, t)
  | _ => fail 252
theorem asReT_spec {x : AV} : Spec (asReT x) fun q => Le x (reT (.zl .W q.1) (.zl .W q.2)) := by
  unfold asReT
  split
  · refine Spec.bind (asWs_spec.mono fun p hp => Spec.bind (asWs_spec.mono fun t ht => Spec.pure' ?_))
    exact Le.pd (.cons (Le.junk _) (.cons (Le.junk _) (.cons (Le.junk _) (.cons (Le.junk _) (.cons hp (.cons ht (.cons (Le.junk _) (.cons (Le.junk _) (.cons (Le.junk _) (.cons (Le.junk _) (.cons (Le.junk _) (.cons (Le.junk _) .nil))))))))))))
  · exact Spec.fail
def asRe (x : AV) : M (List Int) := match x with
  | .pd [_, _, _, _, p, _, _, _, _, _, _, _] 0 => asWs p
  | _ => fail 253
theorem asRe_spec {x : AV} : Spec (asRe x) fun q => Le x (reA (.zl .W q)) := by
  unfold asRe
  split
  · refine asWs_spec.mono fun p hp => ?_
    exact Le.pd (.cons (Le.junk _) (.cons (Le.junk _) (.cons (Le.junk _) (.cons (Le.junk _) (.cons hp (.cons (Le.junk _) (.cons (Le.junk _) (.cons (Le.junk _) (.cons (Le.junk _) (.cons (Le.junk _) (.cons (Le.junk _) (.cons (Le.junk _) .nil))))))))))))
  · exact Spec.fail
theorem reT_reA (p t : AV) : Le (reT p t) (reA p) :=
  Le.pd (.cons (Le.refl _) (.cons (Le.refl _) (.cons (Le.refl _) (.cons (Le.refl _) (.cons (Le.refl _) (.cons (Le.junk _) (LeL.refl _)))))))
theorem reA_le {p q : AV} (h : Le p q) : Le (reA p) (reA q) :=
  Le.pd (.cons (Le.refl _) (.cons (Le.refl _) (.cons (Le.refl _) (.cons (Le.refl _) (.cons h (LeL.refl _))))))
theorem reT_le {p q t u : AV} (h : Le p q) (k : Le t u) : Le (reT p t) (reT q u) :=
  Le.pd (.cons (Le.refl _) (.cons (Le.refl _) (.cons (Le.refl _) (.cons (Le.refl _) (.cons h (.cons k (LeL.refl _)))))))
end Go.Ev
end

section
namespace Go.Ev

abbrev zerosI (n : Nat) : List Int := List.replicate n 0

/-! ### Lists of conditions, said shortly -/

def ttC : Nat → List Prop → List Prop
  | 0, l => l
  | n + 1, l => (true = true) :: ttC n l
theorem AllC.tt : ∀ (n : Nat) {l : List Prop}, AllC l → AllC (ttC n l)
  | 0, _, h => h
  | n + 1, _, h => .cons rfl (AllC.tt n h)
def viaC (P : Program) (b : Code) (keep wr : List Nat) (st0 : St) (n0 : Nat) (r : Ex × St) (l : List Prop) : List Prop :=
  LoopOK P b (viaL P b [] keep wr st0 r) :: (st0 = st0) :: Loops n0 P b st0 r :: l
theorem AllC.via {P : Program} {b : Code} {keep wr : List Nat} {st0 : St} {n0 : Nat} {r : Ex × St} {l : List Prop} (h : Loops n0 P b st0 r) (k : AllC l) : AllC (viaC P b keep wr st0 n0 r l) :=
  .cons viaL_ok (.cons rfl (.cons h k))
theorem isEmptyF {α : Type} {l : List α} (h : l ≠ []) : l.isEmpty = false := by cases l <;> first | rfl | exact absurd rfl h

/-! ### Normal forms as arguments -/

/-- An argument that is a normal form. -/
def asN (x : AV) : M Int := match x with
  | .ni z => M.pure z
  | x => do
    let q ← ofOpt 205 (ints? x)
    match q with
    | [] => M.pure 0
    | _ => fail 206
theorem asN_spec {x : AV} : Spec (asN x) fun z => Le x (.ni z) := by
  unfold asN
  split
  · exact Spec.pure' (Le.refl _)
  · refine Spec.bind (Spec.ofOpt fun q hq => ?_)
    split
    · exact Spec.pure' fun E v h => h.toNi hq rfl
    · exact Spec.fail
def n1 (p : Int → Prop) [∀ a, Tst (p a)] (r : Int → AV) (args : List AV) : M AV := match args with
  | [x] => do
    let a ← asN x
    tellD (p a) (Tst.b (p a))
    gives (r a)
  | _ => fail 210
def n2 (p : Int → Int → Prop) [∀ a b, Tst (p a b)] (r : Int → Int → AV) (args : List AV) : M AV := match args with
  | [x, y] => do
    let a ← asN x
    let b ← asN y
    tellD (p a b) (Tst.b (p a b))
    gives (r a b)
  | _ => fail 211
theorem n1_ok {P : Program} {f : FuncId} {p : Int → Prop} [∀ a, Tst (p a)] {r : Int → AV} (h : ∀ a, p a → FC P f [.ni a] (r a)) : CtrOK P f (n1 p r) := by
  intro args _
  unfold n1
  split
  · exact Spec.bind (asN_spec.mono fun a ha => Spec.bind (Spec.tellD Tst.ok fun hp => Spec.gives ((h a hp).le (.cons ha .nil) (Le.refl _))))
  · exact Spec.fail
theorem n2_ok {P : Program} {f : FuncId} {p : Int → Int → Prop} [∀ a b, Tst (p a b)] {r : Int → Int → AV} (h : ∀ a b, p a b → FC P f [.ni a, .ni b] (r a b)) : CtrOK P f (n2 p r) := by
  intro args _
  unfold n2
  split
  · exact Spec.bind (asN_spec.mono fun a ha => Spec.bind (asN_spec.mono fun b hb => Spec.bind (Spec.tellD Tst.ok fun hp => Spec.gives ((h a b hp).le (.cons ha (.cons hb .nil)) (Le.refl _)))))
  · exact Spec.fail
end Go.Ev
end

section
namespace Go.Ev

/-! ### Contracts over data of known kinds -/

def asK (k : EK) (x : AV) : M k.ty := match k.agg with
  | true => do
    let l ← ofOpt 280 (asAggL x)
    k.dec l
  | false => k.dec [x]
theorem valCells : ∀ (k : EK) (x : k.ty), k.agg = false → ∃ y, k.cells x = [y]
  | .int _, _, _ => ⟨_, rfl⟩
  | .bool, _, _ => ⟨_, rfl⟩
  | .str, _, _ => ⟨_, rfl⟩
  | .sl _, _, _ => ⟨_, rfl⟩
  | .whole, _, h => by cases h
  | .un, _, h => by cases h
  | .pr _ _, _, h => by cases h
theorem asK_spec {k : EK} {x : AV} : Spec (asK k x) fun y => Le x (k.val y) := by
  unfold asK EK.val
  split
  · rename_i h
    rw [h]
    exact Spec.bind (Spec.ofOpt fun l hl => (dec_spec k l).mono fun y hy => fun E v hv => Le.agg hy E v (aggL_rd hl hv))
  · rename_i h
    rw [h]
    refine (dec_spec k [x]).mono fun y hy => ?_
    obtain ⟨z, hz⟩ := valCells k y h
    rw [hz] at hy ⊢
    cases hy with
    | cons h _ => exact h
def cD1 (k : EK) (p : k.ty → Prop) [∀ a, Tst (p a)] (r : k.ty → AV) (args : List AV) : M AV := match args with
  | [x] => do
    let a ← asK k x
    tellD (p a) (Tst.b (p a))
    gives (r a)
  | _ => fail 281
def cD2 (k j : EK) (p : k.ty → j.ty → Prop) [∀ a b, Tst (p a b)] (r : k.ty → j.ty → AV) (args : List AV) : M AV := match args with
  | [x, y] => do
    let a ← asK k x
    let b ← asK j y
    tellD (p a b) (Tst.b (p a b))
    gives (r a b)
  | _ => fail 282
theorem cD1_ok {P : Program} {f : FuncId} {k : EK} {p : k.ty → Prop} [∀ a, Tst (p a)] {r : k.ty → AV} (h : ∀ a, p a → FC P f [k.val a] (r a)) : CtrOK P f (cD1 k p r) := by
  intro args _
  unfold cD1
  split
  · exact Spec.bind (asK_spec.mono fun a ha => Spec.bind (Spec.tellD Tst.ok fun hp => Spec.gives ((h a hp).le (.cons ha .nil) (Le.refl _))))
  · exact Spec.fail
theorem cD2_ok {P : Program} {f : FuncId} {k j : EK} {p : k.ty → j.ty → Prop} [∀ a b, Tst (p a b)] {r : k.ty → j.ty → AV} (h : ∀ a b, p a b → FC P f [k.val a, j.val b] (r a b)) : CtrOK P f (cD2 k j p r) := by
  intro args _
  unfold cD2
  split
  · exact Spec.bind (asK_spec.mono fun a ha => Spec.bind (asK_spec.mono fun b hb => Spec.bind (Spec.tellD Tst.ok fun hp => Spec.gives ((h a b hp).le (.cons ha (.cons hb .nil)) (Le.refl _)))))
  · exact Spec.fail
instance tTrue : Tst True := ⟨true, fun _ => trivial⟩
/-- Numbers as given: coefficients and a denominator. -/
abbrev numK : EK := .pr (.sl (.sl (.int .i64))) (.sl (.int .i64))
end Go.Ev
namespace Go.Ev

/-! ### Contracts that look at some arguments alone -/

def fit1 (x y : AV) : Bool := match y with
  | .junk => true
  | y => eqA 1000 x y
def fits1 : List AV → List AV → Bool
  | [], [] => true
  | x :: l, y :: q => match fit1 x y with | true => fits1 l q | false => false
  | _, _ => false
def fitJ (x y : AV) : Bool := match y with
  | .agg ps => match asAggL x with
    | some cs => fits1 cs ps
    | none => false
  | y => fit1 x y
def fitsJ : List AV → List AV → Bool
  | [], [] => true
  | x :: l, y :: q => match fitJ x y with | true => fitsJ l q | false => false
  | _, _ => false
theorem fit1_le {x y : AV} (h : fit1 x y = true) : Le x y := by
  unfold fit1 at h
  split at h
  · exact fun _ v _ => .junk v
  · rw [(eqA_eq 1000).1 _ _ h]; exact Le.refl _
theorem fits1_le : ∀ {l q : List AV}, fits1 l q = true → LeL l q
  | [], [], _ => .nil
  | [], _ :: _, h => by cases h
  | _ :: _, [], h => by cases h
  | x :: l, y :: q, h => by
    unfold fits1 at h
    split at h
    · rename_i h1; exact .cons (fit1_le h1) (fits1_le h)
    · cases h
theorem fitJ_le {x y : AV} (h : fitJ x y = true) : Le x y := by
  unfold fitJ at h
  split at h
  · split at h
    · rename_i hc; exact fun E v hv => Le.agg (fits1_le h) E v (aggL_rd hc hv)
    · cases h
  · exact fit1_le h
theorem fitsJ_le : ∀ {l q : List AV}, fitsJ l q = true → LeL l q
  | [], [], _ => .nil
  | [], _ :: _, h => by cases h
  | _ :: _, [], h => by cases h
  | x :: l, y :: q, h => by
    unfold fitsJ at h
    split at h
    · rename_i h1; exact .cons (fitJ_le h1) (fitsJ_le h)
    · cases h
def cJ (pats : List AV) (r : AV) (args : List AV) : M AV := match fitsJ args pats with
  | true => M.pure r
  | false => fail 290
theorem cJ_ok {P : Program} {f : FuncId} {pats : List AV} {r : AV} (h : FC P f pats r) : CtrOK P f (cJ pats r) := by
  intro args _
  unfold cJ
  split
  · rename_i hf
    exact Spec.pure' (h.le (fitsJ_le hf) (Le.refl _))
  · exact Spec.fail
end Go.Ev
end
