/- Both texts of a finding, for every finding of short names. -/
import Derived.Test.YtajihhoaimgeaaaGreatDoorYf
import Derived.Test.YtajihhoaimgeaaaGreatDoorSb
import Derived.Test.YtajihhoaimgeaaaGreatDoorSa
set_option linter.unusedVariables false
set_option linter.unusedSimpArgs false
set_option linter.unusedSectionVars false
set_option linter.unnecessarySimpa false
open Go Go.Ab Go.Proofs
namespace Go.Proofs.YtajihhoaimgeaaaGreatDoor
set_option linter.unusedVariables false
set_option linter.unusedSectionVars false
variable [HasBase]

def wordsL : List (List UInt8) := [[], [117, 110, 114, 101, 97, 99, 104, 97, 98, 108, 101], [116, 111, 103, 101, 116, 104, 101, 114], [105, 100, 108, 101], [99, 114, 101, 100, 105, 116], [117, 110, 117, 115, 101, 100], [115, 116, 114, 97, 110, 103, 101], [100, 111, 109, 105, 110, 97, 116, 101, 100], [111, 118, 101, 114, 102, 108, 111, 119], [102, 108, 97, 116]]
def putOn (s p : List UInt8) : List UInt8 := bif p == [] then s else s ++ ([32] ++ p)
def textOf (k : Int) (seg nm : List UInt8) (n : Int) : List UInt8 :=
  if k < 1 ∨ 9 < k then [] else putOn (putOn (putOn (wordsL.getD k.toNat [] ++ [58]) seg) nm) (Lib.itoa n)

theorem dec_len : ∀ (j u : Nat), u < 10 ^ (j + 1) → (Lib.decDigits u).length ≤ j + 1 ∧ Lib.decDigits u ≠ []
  | 0, u, h => by
    unfold Lib.decDigits
    rw [dif_pos (by omega)]
    simp
  | j + 1, u, h => by
    unfold Lib.decDigits
    split
    · simp
    · have := dec_len j (u / 10) (by rw [Nat.pow_succ] at h; omega)
      simp [this.1]
theorem itoa_len {n : Int} (h : inI64 n = true) : (Lib.itoa n).length ≤ 30 ∧ Lib.itoa n ≠ [] := by
  obtain ⟨h0, h1⟩ := inI64_ok h
  unfold Lib.itoa
  split
  · have := dec_len 19 n.natAbs (by omega)
    simp only [List.length_cons]
    exact ⟨by omega, by simp⟩
  · have := dec_len 19 n.toNat (by omega)
    exact ⟨by omega, this.2⟩
theorem fmt13 (k : Nat) (H : Heap) {n : Int} (h : inI64 n = true) : callN Tryz.prog cfgF (k + 1) 13 [.int .i64 n, .int .i64 10] H = some (.ret (.str (Lib.itoa n)), H) := by
  have e : cfgF.sum 13 [.int .i64 n, .int .i64 10] H = some (.ret (.str (Lib.itoa n)), H) := by
    show (match inI64 n && isTen 10 with | true => some (CR.ret (.str (itoaK n)), H) | false => none) = _
    rw [h, itoaK_eq]
    rfl
  simp only [callN, e]
theorem len_putOn (s p : List UInt8) : (putOn s p).length ≤ s.length + p.length + 1 := by
  unfold putOn
  cases hp : p == [] with
  | true => simp; omega
  | false => simp; omega
theorem words_len (m : Nat) : (wordsL.getD m []).length ≤ 11 := by
  by_cases h : m < 10
  · have : ∀ m, m < 10 → (wordsL.getD m []).length ≤ 11 := by decide
    exact this m h
  · rw [List.getD_eq_getElem?_getD, List.getElem?_eq_none (by simp [wordsL]; omega)]
    simp
theorem word_at {m : Nat} (h : m < 10) : (wordsL.map AV.str)[m]? = some (.str (wordsL.getD m [])) := by
  rw [List.getElem?_map, List.getD_eq_getElem?_getD]
  have : m < wordsL.length := by simp [wordsL]; omega
  rw [List.getElem?_eq_getElem this]
  rfl
theorem words_slice (H : Heap) : buildSliceA Tryz.prog H 34 10 ((List.range 10).zip (wordsL.map AV.str)) = some (.sl H.n 0 10 1, H.push (.row false 9 (wordsL.map AV.str))) := by
  simp only [buildSliceA, un34, ts9, tz9]
  rfl
theorem three_slice (H : Heap) (a b c : List UInt8) : buildSliceA Tryz.prog H 34 3 [(0, .str a), (1, .str b), (2, .str c)] = some (.sl H.n 0 3 1, H.push (.row false 9 [.str a, .str b, .str c])) := by
  simp only [buildSliceA, un34, ts9, tz9]
  rfl
theorem frz_str (t : Bool) (H : Heap) (s : List UInt8) (k : Nat) : frz t H (k + 1) (.str s) = some (.str s) := by simp [frz]
theorem accTo {a b c s : List UInt8} : ∀ (i : Nat) {p : List UInt8}, [a, b, c][i]? = some p → ([a, b, c].take (i + 1)).foldl putOn s = putOn (([a, b, c].take i).foldl putOn s) p := by
  intro i p h
  rw [List.take_add_one, h]
  simp
theorem putOn_ne (s p : List UInt8) : ((p == []) = false → putOn s p = s ++ ([32] ++ p)) ∧ ((p == []) = true → putOn s p = s) := by
  unfold putOn
  cases p == [] <;> simp
theorem keep_sum {f : Nat} (hf : fsF f = true) {args : List AV} {H : Heap} {r : CR} {H' : Heap} (h : cfgF.sum f args H = some (r, H')) : H' = H := by
  unfold fsF at hf
  simp only [Bool.or_eq_true, beq_iff_eq] at hf
  rcases hf with ((rfl | rfl) | rfl) | rfl
  · have h : tabS isNil (.bool true) args H = some (r, H') := h
    unfold tabS at h
    cases hb : isNil args with
    | true => rw [hb] at h; cases h; rfl
    | false => rw [hb] at h; cases h
  · cases h
  · cases h
  · have h : sFormatInt args H = some (r, H') := h
    unfold sFormatInt at h
    split at h <;> try (cases h; done)
    split at h <;> try (cases h; done)
    cases h; rfl
theorem keepsF : ∀ k, KeepsH (callN Tryz.prog cfgF k) fsF
  | 0, f, hf, args, H, r, H', h => by cases h
  | k + 1, f, hf, args, H, r, H', h => by
    simp only [callN] at h
    cases hs : cfgF.sum f args H with
    | some p =>
      rw [hs] at h
      cases h
      exact keep_sum hf hs
    | none =>
      rw [hs] at h
      have hp : cfgF.pure f = true := hf
      have ho : cfgF.ok f = true := rfl
      rw [hp, ho] at h
      dsimp only at h
      split at h <;> try (cases h; done)
      split at h <;> try (cases h; done)
      split at h <;> try (cases h; done)
      split at h <;> try (cases h; done)
      cases h; rfl
theorem len_own {t e : TypeId} {H : Heap} {id off m esz : Nat} (hu : Tryz.prog.underlying t = some (.slice e)) : lenA Tryz.prog H t (.sl id off m esz) = some (.int .i64 m) := by
  simp [lenA, hu]
theorem text5 {k n : Int} {sg nm : List UInt8} (he : HasT Tryz.prog 23 [.int .i64 k, .str sg, .str nm, .int .i64 n]) (hsg : sg.length ≤ 60) (hnm : nm.length ≤ 60) (hn : inI64 n = true) : Ev fun K => ∀ H : Heap, callN Tryz.prog cfgF K 5 [.agg [.int .i64 k, .str sg, .str nm, .int .i64 n]] H = some (.ret (.str (textOf k sg nm n)), H) := by
  refine (Ev.ge 10).succ fun K hK H => ?_
  obtain ⟨K, rfl⟩ : ∃ m, K = m + 1 := ⟨K - 1, by omega⟩
  obtain ⟨it1, it2⟩ := itoa_len hn
  obtain ⟨v, e1, rfl⟩ := call_pure (P := Tryz.prog) (cfg := cfgF) (k := K + 1) (H := H) (f := 5) (args := [.agg [.int .i64 k, .str sg, .str nm, .int .i64 n]]) (R := fun v => v = .str (textOf k sg nm n)) rfl rfl rfl Tryz.func5 rfl b5 (by rw [nt5]; simp) (frz1 (he.aggA (by simp))) (by
    rw [nt5]
    refine rg_seq (rg_region l5_0 ?_)
    refine og_all (fun g' H' => g' 1 = .ptr 0 0 ∧ H'.get 0 = .row true 26 [.int .i64 k, .str sg, .str nm, .int .i64 n]) ?_ ?_
    · refine x_box rfl rfl he.all ?_
      refine x_assign rfl ?_
      exact og_nil ⟨rfl, get_push_new _ _⟩
    rintro g H0 ⟨g1, h0⟩
    refine rg_seq (rg_region l5_1 ?_)
    refine og_all (fun g' H' => g' 1 = .ptr 0 0 ∧ (∃ w, g' 3 = .sl w 0 10 1 ∧ H'.get w = .row false 9 (wordsL.map AV.str)) ∧ H'.get 0 = .row true 26 [.int .i64 k, .str sg, .str nm, .int .i64 n]) ?_ ?_
    · refine x_buildSlice (by rfl) (words_slice _) ?_
      refine x_assign rfl ?_
      exact og_nil ⟨g1, ⟨_, rfl, get_push_new _ _⟩, get_push_row h0⟩
    rintro g H1 ⟨g1, ⟨w, g3, hw⟩, h1⟩
    refine rg_seq (rg_seq (rg_region l5_2 ?_))
    refine og_all (fun g' H' => H' = H1 ∧ g' 1 = .ptr 0 0 ∧ g' 3 = .sl w 0 10 1 ∧ g' 15 = .bool (decide (k < 1 ∨ 9 < k))) ?_ ?_
    · refine x_fieldAddr (congrArg some g1) fo26_0 ?_
      refine x_load1 rfl ta3 h1 (by rfl) ?_
      refine x_bin (v := .bool (decide (k < 1))) rfl rfl rfl ?_
      refine x_move rfl ?_
      by_cases hk : k < 1
      · refine og_skip (by show AV.bool _ = _; rw [decide_eq_true hk]; rfl) ?_
        refine og_skip (by show AV.bool _ = _; rw [decide_eq_true hk]; rfl) ?_
        refine og_skip (by show AV.bool _ = _; rw [decide_eq_true hk]; rfl) ?_
        refine x_pickT (by show some (AV.bool _) = _; rw [decide_eq_true hk]) rfl ?_
        exact og_nil ⟨rfl, g1, g3, by show AV.bool true = _; rw [decide_eq_true (Or.inl hk)]⟩
      · refine og_want (by show AV.bool _ = _; rw [decide_eq_false hk]) ?_
        refine x_fieldAddr (congrArg some g1) fo26_0 ?_
        refine og_want (by show AV.bool _ = _; rw [decide_eq_false hk]) ?_
        refine x_load1 rfl ta3 h1 (by rfl) ?_
        refine og_want (by show AV.bool _ = _; rw [decide_eq_false hk]) ?_
        refine x_bin (v := .bool (decide (9 < k))) rfl rfl rfl ?_
        refine x_pickF (by show some (AV.bool _) = _; rw [decide_eq_false hk]) rfl ?_
        exact og_nil ⟨rfl, g1, g3, by show AV.bool (decide (9 < k)) = AV.bool (decide (k < 1 ∨ 9 < k)); simp [hk]⟩
    rintro g H2 ⟨rfl, g1, g3, g15⟩
    refine rg_cond (congrArg some g15) (fun hb => ?_) (fun hb => rg_skip ?_)
    · have hb := of_decide_eq_true hb
      refine rg_seq (rg_region l5_3 ?_)
      refine x_assign rfl ?_
      refine og_nil (rg_ret (res_tmpF rs5 rfl (frz_str _ _ _) ?_))
      unfold textOf
      rw [if_pos hb]
      rfl
    have hb := of_decide_eq_false hb
    obtain ⟨m, rfl⟩ : ∃ m : Nat, k = m := ⟨k.toNat, by omega⟩
    have hm : m < 10 := by omega
    have hwl := words_len m
    have htx : textOf m sg nm n = [sg, nm, Lib.itoa n].foldl putOn (wordsL.getD m [] ++ [58]) := by
      unfold textOf
      rw [if_neg hb, Int.toNat_natCast]
      rfl
    refine rg_seq (rg_region l5_4 ?_)
    refine og_all (fun g' H' => H' = H2 ∧ g' 1 = .ptr 0 0 ∧ g' 4 = .str (wordsL.getD m [] ++ [58])) ?_ ?_
    · refine x_move (congrArg some g3) ?_
      refine x_fieldAddr (congrArg some g1) fo26_0 ?_
      refine x_load1 rfl ta3 h1 (by rfl) ?_
      refine x_indexAddrS rfl rfl ix34 rfl hm ?_
      refine x_load1 rfl ta9 hw (by rw [Nat.zero_add, Nat.mul_one]; exact word_at hm) ?_
      refine x_bin rfl rfl (strAdd (by simp only [List.length_append, List.length_cons, List.length_nil]; omega)) ?_
      refine x_assign rfl ?_
      exact og_nil ⟨rfl, g1, rfl⟩
    rintro g H3 ⟨rfl, g1, g4⟩
    refine rg_seq (rg_seq (rg_drawQ (keepsF _) n5_5 l5_5 ?_))
    refine og_all (fun g' H' => (∃ w, g' 29 = .sl w 0 3 1 ∧ H'.get w = .row false 9 [.str sg, .str nm, .str (Lib.itoa n)]) ∧ g' 30 = .int .i64 3 ∧ g' 31 = .int .i64 (0 : Nat) ∧ g' 4 = .str (wordsL.getD m [] ++ [58])) ?_ ?_
    · refine x_fieldAddr (congrArg some g1) fo26_1 ?_
      refine x_load1 rfl ta9 h1 (by rfl) ?_
      refine x_fieldAddr (congrArg some g1) fo26_2 ?_
      refine x_load1 rfl ta9 h1 (by rfl) ?_
      refine x_fieldAddr (congrArg some g1) fo26_3 ?_
      refine x_load1 rfl ta2 h1 (by rfl) ?_
      refine x_call (evsC rfl (evsC rfl evs0)) rfl (fmt13 K _ hn) ?_
      refine x_buildSlice (by rfl) (three_slice _ _ _ _) ?_
      refine x_len (evsC rfl evs0) rfl rfl (len_own un34) ?_
      refine x_move rfl ?_
      exact og_nil ⟨⟨_, rfl, get_push_new _ _⟩, rfl, rfl, g4⟩
    rintro g H4 ⟨⟨w2, g29, hw2⟩, g30, g31, g4⟩
    refine rg_block (rg_loop (fun z g H => ∃ i : Nat, i ≤ 3 ∧ z = 3 - i ∧ H4 = H ∧ g 29 = .sl w2 0 3 1 ∧ g 30 = .int .i64 3 ∧ g 31 = .int .i64 i ∧ g 4 = .str (([sg, nm, Lib.itoa n].take i).foldl putOn (wordsL.getD m [] ++ [58])) ∧ (([sg, nm, Lib.itoa n].take i).foldl putOn (wordsL.getD m [] ++ [58])).length ≤ 20 + i * 100) (m := 3) (by omega) ⟨0, by omega, rfl, rfl, g29, g30, g31, g4, by show (wordsL.getD m [] ++ [58]).length ≤ _; simp only [List.length_append, List.length_cons, List.length_nil]; omega⟩ ?_)
    rintro z g H ⟨i, hi, rfl, rfl, g29, g30, g31, g4, hlen⟩
    refine rg_seq (rg_region l5_6 ?_)
    refine og_all (fun g' H' => H4 = H' ∧ g' 29 = .sl w2 0 3 1 ∧ g' 30 = .int .i64 3 ∧ g' 31 = .int .i64 i ∧ g' 4 = .str (([sg, nm, Lib.itoa n].take i).foldl putOn (wordsL.getD m [] ++ [58])) ∧ g' 32 = .bool (decide ((i : Int) < 3))) ?_ ?_
    · refine x_bin (congrArg some g31) (congrArg some g30) rfl ?_
      exact og_nil ⟨rfl, g29, g30, g31, g4, rfl⟩
    rintro g H ⟨rfl, g29, g30, g31, g4, g32⟩
    refine rg_seq (rg_cond (congrArg some g32) (fun hc => rg_skip ?_) (fun hc => rg_exit ?_))
    rotate_left
    · have hc := of_decide_eq_false hc
      obtain rfl : i = 3 := by omega
      show RG _ _ _ _ _ _ _ _
      refine rg_seq (rg_region l5_11 ?_)
      refine x_move (congrArg some g4) ?_
      refine x_assign rfl ?_
      exact og_nil (rg_ret (res_tmpF rs5 rfl (frz_str _ _ _) (by rw [htx]; rfl)))
    have hc := of_decide_eq_true hc
    have hi3 : i < 3 := by omega
    obtain ⟨p, hp⟩ : ∃ p, [sg, nm, Lib.itoa n][i]? = some p := ⟨[sg, nm, Lib.itoa n][i], List.getElem?_eq_getElem (by simpa using hi3)⟩
    have hpl : p.length ≤ 60 := by
      have := List.mem_of_getElem? hp
      simp at this
      rcases this with rfl | rfl | rfl <;> omega
    have hpc : [AV.str sg, AV.str nm, AV.str (Lib.itoa n)][i]? = some (.str p) := by
      have : [AV.str sg, AV.str nm, AV.str (Lib.itoa n)] = [sg, nm, Lib.itoa n].map AV.str := rfl
      rw [this, List.getElem?_map, hp]
      rfl
    have hnext := accTo (s := wordsL.getD m [] ++ [58]) i hp
    generalize ([sg, nm, Lib.itoa n].take i).foldl putOn (wordsL.getD m [] ++ [58]) = acc at g4 hlen hnext
    have hnl := len_putOn acc p
    refine rg_seq (rg_block (rg_seq (rg_region l5_7 ?_)))
    refine og_all (fun g' H' => H4 = H' ∧ g' 29 = .sl w2 0 3 1 ∧ g' 30 = .int .i64 3 ∧ g' 31 = .int .i64 i ∧ g' 4 = .str acc ∧ g' 6 = .str p) ?_ ?_
    · refine x_indexAddrS (congrArg some g29) (congrArg some g31) ix34 rfl hi3 ?_
      refine x_load1 rfl ta9 hw2 (by rw [Nat.zero_add, Nat.mul_one]; exact hpc) ?_
      refine x_assign rfl ?_
      exact og_nil ⟨rfl, g29, g30, g31, g4, rfl⟩
    rintro g H ⟨rfl, g29, g30, g31, g4, g6⟩
    refine rg_seq (rg_region l5_8 ?_)
    refine og_all (fun g' H' => H4 = H' ∧ g' 29 = .sl w2 0 3 1 ∧ g' 30 = .int .i64 3 ∧ g' 31 = .int .i64 i ∧ g' 4 = .str acc ∧ g' 6 = .str p ∧ g' 36 = .bool (!(p == []))) ?_ ?_
    · refine x_move (congrArg some g6) ?_
      refine x_bin rfl rfl rfl ?_
      exact og_nil ⟨rfl, g29, g30, g31, g4, g6, rfl⟩
    rintro g H ⟨rfl, g29, g30, g31, g4, g6, g36⟩
    have hinc : i + 1 ≤ maxLen := Nat.le_trans (m := 4) (by omega) (by decide)
    refine rg_cond (congrArg some g36) (fun hb => ?_) (fun hb => rg_skip ?_)
    · have hpe : putOn acc p = acc ++ ([32] ++ p) := by
        unfold putOn
        cases hq : p == [] with
        | true => rw [hq] at hb; cases hb
        | false => rfl
      refine rg_region l5_9 ?_
      refine og_all (fun g' H' => H4 = H' ∧ g' 29 = .sl w2 0 3 1 ∧ g' 30 = .int .i64 3 ∧ g' 31 = .int .i64 i ∧ g' 4 = .str (putOn acc p)) ?_ ?_
      · refine x_move (congrArg some g4) ?_
        refine x_move (congrArg some g6) ?_
        refine x_bin (v := .str ([32] ++ p)) rfl rfl (strAdd (by simp only [List.length_append, List.length_cons, List.length_nil]; omega)) ?_
        refine x_bin (v := .str (acc ++ ([32] ++ p))) rfl rfl (strAdd (by simp only [List.length_append, List.length_cons, List.length_nil]; omega)) ?_
        refine x_assign rfl ?_
        exact og_nil ⟨rfl, g29, g30, g31, by rw [hpe]; rfl⟩
      rintro g H ⟨rfl, g29, g30, g31, g4⟩
      refine rg_region l5_10 ?_
      refine x_inc (congrArg some g31) hinc ?_
      refine x_move rfl ?_
      exact og_nil ⟨3 - (i + 1), by omega, i + 1, by omega, rfl, rfl, g29, g30, rfl, by rw [hnext]; exact g4, by rw [hnext]; omega⟩
    have hpe : putOn acc p = acc := by
      unfold putOn
      cases hq : p == [] with
      | true => rfl
      | false => rw [hq] at hb; cases hb
    refine rg_region l5_10 ?_
    refine x_inc (congrArg some g31) hinc ?_
    refine x_move rfl ?_
    exact og_nil ⟨3 - (i + 1), by omega, i + 1, by omega, rfl, rfl, g29, g30, rfl, by rw [hnext, hpe]; exact g4, by rw [hnext]; omega⟩)
  exact e1
theorem text6 {k n : Int} {sg nm : List UInt8} (he : HasT Tryz.prog 23 [.int .i64 k, .str sg, .str nm, .int .i64 n]) (hsg : sg.length ≤ 60) (hnm : nm.length ≤ 60) (hn : inI64 n = true) : Ev fun K => ∀ H : Heap, callN Tryz.prog cfgF K 6 [.agg [.int .i64 k, .str sg, .str nm, .int .i64 n]] H = some (.ret (.str (textOf k sg nm n)), H) := by
  refine (Ev.ge 10).succ fun K hK H => ?_
  obtain ⟨K, rfl⟩ : ∃ m, K = m + 1 := ⟨K - 1, by omega⟩
  obtain ⟨it1, it2⟩ := itoa_len hn
  obtain ⟨v, e1, rfl⟩ := call_pure (P := Tryz.prog) (cfg := cfgF) (k := K + 1) (H := H) (f := 6) (args := [.agg [.int .i64 k, .str sg, .str nm, .int .i64 n]]) (R := fun v => v = .str (textOf k sg nm n)) rfl rfl rfl Tryz.func6 rfl b6 (by rw [nt6]; simp) (frz1 (he.aggA (by simp))) (by
    rw [nt6]
    refine rg_seq (rg_region l6_0 ?_)
    refine og_all (fun g' H' => g' 1 = .ptr 0 0 ∧ H'.get 0 = .row true 23 [.int .i64 k, .str sg, .str nm, .int .i64 n]) ?_ ?_
    · refine x_box rfl rfl he.all ?_
      refine x_assign rfl ?_
      exact og_nil ⟨rfl, get_push_new _ _⟩
    rintro g H0 ⟨g1, h0⟩
    refine rg_seq (rg_region l6_1 ?_)
    refine og_all (fun g' H' => g' 1 = .ptr 0 0 ∧ (∃ w, g' 3 = .sl w 0 10 1 ∧ H'.get w = .row false 9 (wordsL.map AV.str)) ∧ H'.get 0 = .row true 23 [.int .i64 k, .str sg, .str nm, .int .i64 n]) ?_ ?_
    · refine x_buildSlice (by rfl) (words_slice _) ?_
      refine x_assign rfl ?_
      exact og_nil ⟨g1, ⟨_, rfl, get_push_new _ _⟩, get_push_row h0⟩
    rintro g H1 ⟨g1, ⟨w, g3, hw⟩, h1⟩
    refine rg_seq (rg_seq (rg_region l6_2 ?_))
    refine og_all (fun g' H' => H' = H1 ∧ g' 1 = .ptr 0 0 ∧ g' 3 = .sl w 0 10 1 ∧ g' 15 = .bool (decide (k < 1 ∨ 9 < k))) ?_ ?_
    · refine x_fieldAddr (congrArg some g1) fo23_0 ?_
      refine x_load1 rfl ta3 h1 (by rfl) ?_
      refine x_bin (v := .bool (decide (k < 1))) rfl rfl rfl ?_
      refine x_move rfl ?_
      by_cases hk : k < 1
      · refine og_skip (by show AV.bool _ = _; rw [decide_eq_true hk]; rfl) ?_
        refine og_skip (by show AV.bool _ = _; rw [decide_eq_true hk]; rfl) ?_
        refine og_skip (by show AV.bool _ = _; rw [decide_eq_true hk]; rfl) ?_
        refine og_skip (by show AV.bool _ = _; rw [decide_eq_true hk]; rfl) ?_
        refine og_skip (by show AV.bool _ = _; rw [decide_eq_true hk]; rfl) ?_
        refine x_pickT (by show some (AV.bool _) = _; rw [decide_eq_true hk]) rfl ?_
        exact og_nil ⟨rfl, g1, g3, by show AV.bool true = _; rw [decide_eq_true (Or.inl hk)]⟩
      · refine og_want (by show AV.bool _ = _; rw [decide_eq_false hk]) ?_
        refine x_fieldAddr (congrArg some g1) fo23_0 ?_
        refine og_want (by show AV.bool _ = _; rw [decide_eq_false hk]) ?_
        refine x_load1 rfl ta3 h1 (by rfl) ?_
        refine og_want (by show AV.bool _ = _; rw [decide_eq_false hk]) ?_
        refine x_move (congrArg some g3) ?_
        refine og_want (by show AV.bool _ = _; rw [decide_eq_false hk]) ?_
        refine x_len (evsC rfl evs0) rfl rfl (len_own un34) ?_
        refine og_want (by show AV.bool _ = _; rw [decide_eq_false hk]) ?_
        refine x_bin (v := .bool (decide (k ≥ (10 : Nat)))) rfl rfl rfl ?_
        refine x_pickF (by show some (AV.bool _) = _; rw [decide_eq_false hk]) rfl ?_
        exact og_nil ⟨rfl, g1, g3, congrArg AV.bool (decide_eq_decide.2 (by omega))⟩
    rintro g H2 ⟨rfl, g1, g3, g15⟩
    refine rg_cond (congrArg some g15) (fun hb => ?_) (fun hb => rg_skip ?_)
    · have hb := of_decide_eq_true hb
      refine rg_seq (rg_region l6_3 ?_)
      refine x_assign rfl ?_
      refine og_nil (rg_ret (res_tmpF rs6 rfl (frz_str _ _ _) ?_))
      unfold textOf
      rw [if_pos hb]
      rfl
    have hb := of_decide_eq_false hb
    obtain ⟨m, rfl⟩ : ∃ m : Nat, k = m := ⟨k.toNat, by omega⟩
    have hm : m < 10 := by omega
    have hwl := words_len m
    have htx : textOf m sg nm n = putOn (putOn (putOn (wordsL.getD m [] ++ [58]) sg) nm) (Lib.itoa n) := by
      unfold textOf
      rw [if_neg hb, Int.toNat_natCast]
    refine rg_seq (rg_region l6_4 ?_)
    refine og_all (fun g' H' => H' = H2 ∧ g' 1 = .ptr 0 0 ∧ g' 4 = .str (wordsL.getD m [] ++ [58])) ?_ ?_
    · refine x_move (congrArg some g3) ?_
      refine x_fieldAddr (congrArg some g1) fo23_0 ?_
      refine x_load1 rfl ta3 h1 (by rfl) ?_
      refine x_indexAddrS rfl rfl ix34 rfl hm ?_
      refine x_load1 rfl ta9 hw (by rw [Nat.zero_add, Nat.mul_one]; exact word_at hm) ?_
      refine x_bin rfl rfl (strAdd (by simp only [List.length_append, List.length_cons, List.length_nil]; omega)) ?_
      refine x_assign rfl ?_
      exact og_nil ⟨rfl, g1, rfl⟩
    rintro g H3 ⟨rfl, g1, g4⟩
    have hl0 : (wordsL.getD m [] ++ [58]).length ≤ 12 := by simp only [List.length_append, List.length_cons, List.length_nil]; omega
    generalize wordsL.getD m [] ++ [58] = s0 at g4 htx hl0
    have hl1 := len_putOn s0 sg
    have hl2 := len_putOn (putOn s0 sg) nm
    have e1 := putOn_ne s0 sg
    have e2 := putOn_ne (putOn s0 sg) nm
    refine rg_seq (rg_seq (rg_region l6_5 ?_))
    refine og_all (fun g' H' => H3 = H' ∧ g' 1 = .ptr 0 0 ∧ g' 4 = .str s0 ∧ g' 24 = .bool (!(sg == []))) ?_ ?_
    · refine x_fieldAddr (congrArg some g1) fo23_1 ?_
      refine x_load1 rfl ta9 h1 (by rfl) ?_
      refine x_bin rfl rfl rfl ?_
      exact og_nil ⟨rfl, g1, g4, rfl⟩
    rintro g H ⟨rfl, g1, g4, gc⟩
    have hnext5 : RG Tryz.prog (callN Tryz.prog cfgF (K + 1)) 44 (K + 1) (.cond (.tmp 24) (.region 6 r6_6 false) .skip) g H3 (AX.thenG (fun g' H' => H3 = H' ∧ g' 1 = .ptr 0 0 ∧ g' 4 = .str (putOn s0 sg)) (fun _ _ _ => False)) := by
      refine rg_cond (congrArg some gc) (fun hb => ?_) (fun hb => rg_skip ?_)
      · have hq : (sg == []) = false := by
          cases hq : (sg == []) with
          | true => rw [hq] at hb; cases hb
          | false => rfl
        refine rg_region l6_6 ?_
        refine x_move (congrArg some g4) ?_
        refine x_fieldAddr (congrArg some g1) fo23_1 ?_
        refine x_load1 rfl ta9 h1 (by rfl) ?_
        refine x_bin (v := .str ([32] ++ sg)) rfl rfl (strAdd (by simp only [List.length_cons, List.length_nil]; omega)) ?_
        refine x_bin (v := .str (s0 ++ ([32] ++ sg))) rfl rfl (strAdd (by simp only [List.length_append, List.length_cons, List.length_nil]; omega)) ?_
        refine x_assign rfl ?_
        exact og_nil ⟨rfl, g1, by rw [e1.1 hq]; rfl⟩
      · have hq : (sg == []) = true := by
          cases hq : (sg == []) with
          | true => rfl
          | false => rw [hq] at hb; cases hb
        exact ⟨rfl, g1, by rw [e1.2 hq]; exact g4⟩
    refine hnext5.mono fun ax g' H' hq => ?_
    cases ax with
    | normal => ?_
    | _ => exact hq.elim
    obtain ⟨rfl, g1, g4⟩ := hq
    show RG _ _ _ _ _ _ _ _
    refine rg_seq (rg_seq (rg_region l6_7 ?_))
    refine og_all (fun g' H' => H3 = H' ∧ g' 1 = .ptr 0 0 ∧ g' 4 = .str (putOn s0 sg) ∧ g' 32 = .bool (!(nm == []))) ?_ ?_
    · refine x_fieldAddr (congrArg some g1) fo23_2 ?_
      refine x_load1 rfl ta9 h1 (by rfl) ?_
      refine x_bin rfl rfl rfl ?_
      exact og_nil ⟨rfl, g1, g4, rfl⟩
    rintro g H ⟨rfl, g1, g4, gc⟩
    have hnext7 : RG Tryz.prog (callN Tryz.prog cfgF (K + 1)) 44 (K + 1) (.cond (.tmp 32) (.region 8 r6_8 false) .skip) g H3 (AX.thenG (fun g' H' => H3 = H' ∧ g' 1 = .ptr 0 0 ∧ g' 4 = .str (putOn (putOn s0 sg) nm)) (fun _ _ _ => False)) := by
      refine rg_cond (congrArg some gc) (fun hb => ?_) (fun hb => rg_skip ?_)
      · have hq : (nm == []) = false := by
          cases hq : (nm == []) with
          | true => rw [hq] at hb; cases hb
          | false => rfl
        refine rg_region l6_8 ?_
        refine x_move (congrArg some g4) ?_
        refine x_fieldAddr (congrArg some g1) fo23_2 ?_
        refine x_load1 rfl ta9 h1 (by rfl) ?_
        refine x_bin (v := .str ([32] ++ nm)) rfl rfl (strAdd (by simp only [List.length_cons, List.length_nil]; omega)) ?_
        refine x_bin (v := .str ((putOn s0 sg) ++ ([32] ++ nm))) rfl rfl (strAdd (by simp only [List.length_append, List.length_cons, List.length_nil]; omega)) ?_
        refine x_assign rfl ?_
        exact og_nil ⟨rfl, g1, by rw [e2.1 hq]; rfl⟩
      · have hq : (nm == []) = true := by
          cases hq : (nm == []) with
          | true => rfl
          | false => rw [hq] at hb; cases hb
        exact ⟨rfl, g1, by rw [e2.2 hq]; exact g4⟩
    refine hnext7.mono fun ax g' H' hq => ?_
    cases ax with
    | normal => ?_
    | _ => exact hq.elim
    obtain ⟨rfl, g1, g4⟩ := hq
    show RG _ _ _ _ _ _ _ _
    have e3 := (putOn_ne (putOn (putOn s0 sg) nm) (Lib.itoa n)).1 (by
      cases hq : Lib.itoa n with
      | nil => exact absurd hq it2
      | cons _ _ => rfl)
    rw [htx, e3]
    refine rg_seq (rg_region l6_9 ?_)
    refine x_move (congrArg some g4) ?_
    refine x_bin (v := .str (putOn (putOn s0 sg) nm ++ [32])) rfl rfl (strAdd (by simp only [List.length_append, List.length_cons, List.length_nil]; omega)) ?_
    refine x_fieldAddr (congrArg some g1) fo23_3 ?_
    refine x_load1 rfl ta2 h1 (by rfl) ?_
    refine x_call (evsC rfl (evsC rfl evs0)) rfl (fmt13 K _ hn) ?_
    refine x_bin (v := .str (putOn (putOn s0 sg) nm ++ [32] ++ Lib.itoa n)) rfl rfl (strAdd (by simp only [List.length_append, List.length_cons, List.length_nil]; omega)) ?_
    refine x_assign rfl ?_
    exact og_nil (rg_ret (res_tmpF rs6 rfl (frz_str _ _ _) (by rw [← List.append_assoc]; rfl))))
  exact e1
end Go.Proofs.YtajihhoaimgeaaaGreatDoor

/- The law, run by the abstract machine: true. -/
open Go Go.Ab Go.Proofs
namespace Go.Proofs.YtajihhoaimgeaaaGreatDoor
set_option linter.unusedVariables false
set_option linter.unusedSectionVars false
variable [HasBase]
theorem awake4 (k : Nat) (H : Heap) : callN Tryz.prog cfgF (k + 1) 4 [] H = some (.ret (.bool true), H) := by
  have h : cfgF.sum 4 [] H = some (.ret (.bool true), H) := rfl
  simp only [callN, h]
theorem inI64_of {n : Int} (h : (Lit.int .i64 n).wf = true) : inI64 n = true := by
  have h : (IntKind.i64.min ≤ n && n ≤ IntKind.i64.max) = true := h
  rw [Bool.and_eq_true, decide_eq_true_eq, decide_eq_true_eq] at h
  have h1 : (-9223372036854775808 : Int) ≤ n := h.1
  have h2 : n ≤ (9223372036854775807 : Int) := h.2
  unfold inI64
  rw [Bool.and_eq_true]
  exact ⟨Nat.ble_eq_true_of_le (by omega), Nat.ble_eq_true_of_le (by omega)⟩
theorem eqS {t : TypeId} {x y : Operand} {s : List UInt8} : binA Tryz.prog .eql t x y (.str s) (.str s) = some (.bool true) := by simp [binA, strOp]
theorem law3 {c : List AV} (hc : HasT Tryz.prog 23 c) : Ev fun k => ∃ H', callN Tryz.prog cfgF k 3 [.agg c] Heap.empty = some (.ret (.bool true), H') := by
  obtain ⟨a0, r0, rfl, h0, a1, r1, rfl, h1, a2, r2, rfl, h2, a3, r3, rfl, h3, rfl⟩ := hc.fields un23 ft23
  obtain ⟨kd, rfl, -⟩ := h0.int_inv un3
  obtain ⟨sg, rfl, -⟩ := h1.str_inv un9
  obtain ⟨nm, rfl, -⟩ := h2.str_inv un9
  obtain ⟨n, rfl, hn⟩ := h3.int_inv un2
  have hn := inI64_of hn
  simp only [List.append_nil, List.cons_append, List.nil_append] at hc ⊢
  clear h0 h1 h2 h3
  have htexts : Ev fun K => sg.length ≤ 60 → nm.length ≤ 60 → ∀ H : Heap, callN Tryz.prog cfgF K 5 [.agg [.int .i64 kd, .str sg, .str nm, .int .i64 n]] H = some (.ret (.str (textOf kd sg nm n)), H) ∧ callN Tryz.prog cfgF K 6 [.agg [.int .i64 kd, .str sg, .str nm, .int .i64 n]] H = some (.ret (.str (textOf kd sg nm n)), H) := by
    by_cases h : sg.length ≤ 60 ∧ nm.length ≤ 60
    · exact ((text5 hc h.1 h.2 hn).and (text6 hc h.1 h.2 hn)).mono fun K hK _ _ H => ⟨hK.1 H, hK.2 H⟩
    · exact Ev.of fun K h1 h2 => absurd ⟨h1, h2⟩ h
  refine (htexts.and (Ev.ge 10)).succ fun K hK => ?_
  obtain ⟨ht, hge⟩ := hK
  obtain ⟨K, rfl⟩ : ∃ m, K = m + 1 := ⟨K - 1, by omega⟩
  obtain ⟨v, H', e1, rfl⟩ := call_in (P := Tryz.prog) (cfg := cfgF) (k := K + 1) (H := Heap.empty) (f := 3) (args := [.agg [.int .i64 kd, .str sg, .str nm, .int .i64 n]]) (R := fun v H' => v = .bool true) rfl rfl rfl Tryz.func3 rfl b3 (by rw [nt3]; simp) (by
    rw [nt3]
    refine rg_seq (rg_region l3_0 ?_)
    refine og_all (fun g' H' => g' 1 = .ptr 0 0 ∧ H'.get 0 = .row true 23 [.int .i64 kd, .str sg, .str nm, .int .i64 n]) ?_ ?_
    · refine x_box rfl rfl hc.all ?_
      refine x_assign rfl ?_
      exact og_nil ⟨rfl, get_push_new _ _⟩
    rintro g H0 ⟨g1, h0⟩
    refine rg_seq (rg_seq (rg_region l3_1 ?_))
    refine og_all (fun g' H' => H0 = H' ∧ g' 1 = .ptr 0 0 ∧ g' 12 = .bool (decide (60 < sg.length ∨ 60 < nm.length))) ?_ ?_
    · refine x_fieldAddr (congrArg some g1) fo23_1 ?_
      refine x_load1 rfl ta9 h0 (by rfl) ?_
      refine x_len (evsC rfl evs0) rfl rfl (len_str un9) ?_
      refine x_bin (v := .bool (decide ((sg.length : Int) > 60))) rfl rfl rfl ?_
      refine x_move rfl ?_
      by_cases hs : 60 < sg.length
      · have hd : decide ((sg.length : Int) > 60) = true := decide_eq_true (by omega)
        refine og_skip (by show AV.bool _ = _; rw [hd]; rfl) ?_
        refine og_skip (by show AV.bool _ = _; rw [hd]; rfl) ?_
        refine og_skip (by show AV.bool _ = _; rw [hd]; rfl) ?_
        refine og_skip (by show AV.bool _ = _; rw [hd]; rfl) ?_
        refine x_pickT (by show some (AV.bool _) = _; rw [hd]) rfl ?_
        exact og_nil ⟨rfl, g1, by show AV.bool true = _; rw [decide_eq_true (Or.inl hs)]⟩
      · have hd : decide ((sg.length : Int) > 60) = false := decide_eq_false (by omega)
        refine og_want (by show AV.bool _ = _; rw [hd]) ?_
        refine x_fieldAddr (congrArg some g1) fo23_2 ?_
        refine og_want (by show AV.bool _ = _; rw [hd]) ?_
        refine x_load1 rfl ta9 h0 (by rfl) ?_
        refine og_want (by show AV.bool _ = _; rw [hd]) ?_
        refine x_len (evsC rfl evs0) rfl rfl (len_str un9) ?_
        refine og_want (by show AV.bool _ = _; rw [hd]) ?_
        refine x_bin (v := .bool (decide ((nm.length : Int) > 60))) rfl rfl rfl ?_
        refine x_pickF (by show some (AV.bool _) = _; rw [hd]) rfl ?_
        exact og_nil ⟨rfl, g1, congrArg AV.bool (decide_eq_decide.2 (by omega))⟩
    rintro g H ⟨rfl, g1, g12⟩
    refine rg_cond (congrArg some g12) (fun hb => ?_) (fun hb => rg_skip ?_)
    · refine rg_seq (rg_region l3_2 ?_)
      refine x_call evs0 rfl (awake4 K H0) ?_
      refine x_assign rfl ?_
      exact og_nil (rg_ret (res_tmp (R := fun v => v = .bool true) rs3 rfl rfl))
    have hb := of_decide_eq_false hb
    obtain ⟨t5, t6⟩ := ht (by omega) (by omega) H0
    refine rg_seq (rg_drawQ (keepsF _) n3_3 l3_3 ?_)
    refine x_call evs0 rfl (awake4 K H0) ?_
    refine x_move rfl ?_
    refine og_want rfl ?_
    refine x_loadN (congrArg some g1) ta23 ts23 h0 rfl rfl ?_
    refine og_want rfl ?_
    refine x_call (evsC rfl evs0) rfl t5 ?_
    refine og_want rfl ?_
    refine x_loadN (congrArg some g1) ta23 ts23 h0 rfl rfl ?_
    refine og_want rfl ?_
    refine x_call (evsC rfl evs0) rfl t6 ?_
    refine og_want rfl ?_
    refine x_bin rfl rfl eqS ?_
    refine x_pickT rfl rfl ?_
    refine x_assign rfl ?_
    exact og_nil (rg_ret (res_tmp (R := fun v => v = .bool true) rs3 rfl rfl)))
  exact ⟨H', e1⟩
end Go.Proofs.YtajihhoaimgeaaaGreatDoor
