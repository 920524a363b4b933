/- The reference's search for names; a segment's panels. -/
import Derived.Test.YthmmpnkmjbfimaaGreatDoorYg
import Derived.Test.YthmmpnkmjbfimaaGreatDoorSb
set_option linter.unusedVariables false
set_option linter.unusedSimpArgs false
set_option linter.unusedSectionVars false
set_option linter.unnecessarySimpa false
open Go Go.Ab Go.Proofs
namespace Go.Proofs.YthmmpnkmjbfimaaGreatDoor
set_option linter.unusedVariables false
set_option linter.unusedSectionVars false
variable [HasBase]
theorem name_row {t : TypeId} {fs : Array Field} {ts : List TypeId} {c : List AV} (h : HasT Tryz.prog t c) (hu : Tryz.prog.underlying t = some (.struct fs)) (ht : fs.toList.map (fun f => f.type) = 9 :: ts) : ∃ s rest, c = .str s :: rest ∧ rowName c = s := by
  obtain ⟨a, b, rfl, h1, _⟩ := h.fields hu ht
  obtain ⟨s, rfl, _⟩ := h1.str_inv un9
  exact ⟨s, b, rfl, rfl⟩
theorem has19 {names : List (List UInt8)} {x : AV} (hx : IsSl x (names.map fun s => [AV.str s])) (hm : names.length ≤ maxLen) (nm : List UInt8) : Ev fun k => ∀ H : Heap, callN Tryz.prog cfgD k 19 [x, .str nm] H = some (.ret (.bool (names.any fun s => s == nm)), H) := by
  refine (Ev.ge (names.length + 1)).succ fun k hk H => ?_
  obtain ⟨v, e1, rfl⟩ := call_pure (P := Tryz.prog) (cfg := cfgD) (k := k) (H := H) (f := 19) (args := [x, .str nm]) (R := fun v => v = .bool (names.any fun s => s == nm)) rfl rfl rfl Tryz.func19 rfl b19 (by rw [nt19]; simp) (frz2 hx.flat.A (flat_str _).A) (by
    rw [nt19]
    refine rg_seq (rg_region l19_0 ?_)
    refine x_assign rfl ?_
    refine og_nil (rg_seq (rg_seq (rg_region l19_1 ?_)))
    refine x_assign rfl ?_
    refine og_nil ?_
    refine rg_block (rg_loop (fun z g H => ∃ i : Nat, g 0 = x ∧ g 1 = .str nm ∧ g 5 = .int .i64 i ∧ i ≤ names.length ∧ z = names.length - i ∧ ∀ (j : Nat) (s : List UInt8), j < i → names[j]? = some s → (s == nm) = false) (m := names.length) (by omega) ⟨0, rfl, rfl, rfl, Nat.zero_le _, rfl, fun j s h => absurd h (by omega)⟩ ?_)
    rintro z g H ⟨i, g0, g1, g5, hi, rfl, hlt⟩
    refine rg_seq (rg_seq (rg_region l19_2 ?_))
    refine og_all (fun g' H' => g' 0 = x ∧ g' 1 = .str nm ∧ g' 5 = .int .i64 i ∧ g' 9 = .bool (decide ((i : Int) < (names.length : Int)))) ?_ ?_
    · refine x_move (congrArg some g5) ?_
      refine x_move (v := g 0) rfl ?_
      refine x_len (evsC rfl evs0) rfl rfl (len_sl un23 (x := g 0) (rows := names.map fun s => [AV.str s]) (by rw [g0]; exact hx)) ?_
      refine x_bin rfl rfl rfl ?_
      exact og_nil ⟨g0, g1, g5, by simp only [List.length_map]; rfl⟩
    rintro g H' ⟨g0, g1, g5, g9⟩
    refine rg_cond (congrArg some g9) (fun hc => rg_skip ?_) (fun hif => rg_exit ?_)
    · have hil : i < names.length := by have := of_decide_eq_true hc; omega
      obtain ⟨s, hs⟩ : ∃ s, names[i]? = some s := ⟨names[i], List.getElem?_eq_getElem hil⟩
      obtain ⟨tt, hxt⟩ : ∃ tt, x = .isl tt (names.map fun s => [AV.str s]) := by
        generalize hrw : (names.map fun s => [AV.str s]) = rows at hx
        cases hx with
        | nils => simp at hrw; rw [hrw] at hil; simp at hil
        | isl tt rows => exact ⟨tt, rfl⟩
      have hri : (names.map fun s => [AV.str s])[i]? = some [.str s] := by simp [hs]
      refine rg_seq (rg_block (rg_seq (rg_region l19_3 ?_)))
      refine og_all (fun g' H' => g' 0 = x ∧ g' 1 = .str nm ∧ g' 5 = .int .i64 i ∧ g' 17 = .bool (s == nm)) ?_ ?_
      · refine x_move (congrArg some (g0.trans hxt)) ?_
        refine x_move (congrArg some g5) ?_
        refine x_indexAddrI rfl rfl ix23 hri rfl ?_
        refine x_load1E rfl ta9 rfl ?_
        refine x_move (congrArg some g1) ?_
        refine x_bin rfl rfl rfl ?_
        exact og_nil ⟨g0, g1, g5, rfl⟩
      rintro g H2 ⟨g0, g1, g5, g17⟩
      refine rg_cond (congrArg some g17) (fun hb => ?_) (fun hb => rg_skip ?_)
      · refine rg_seq (rg_region l19_4 ?_)
        refine x_assign rfl ?_
        refine og_nil (rg_ret (res_tmpF rs19 rfl (frz_bool _ _ _) ?_))
        rw [any_of_get hs hb]; rfl
      refine rg_region l19_5 ?_
      refine x_move (congrArg some g5) ?_
      refine x_inc rfl (by omega) ?_
      refine x_assign rfl ?_
      refine og_nil ⟨names.length - (i + 1), by omega, i + 1, g0, g1, rfl, by omega, rfl, fun j s' hj hs' => ?_⟩
      by_cases hji : j = i
      · subst hji
        rw [hs] at hs'
        cases hs'
        exact hb
      · exact hlt j s' (by omega) hs'
    show RG _ _ _ _ _ _ _ _
    refine rg_seq (rg_region l19_6 ?_)
    refine x_assign rfl ?_
    refine og_nil (rg_ret (res_tmpF rs19 rfl (frz_bool _ _ _) ?_))
    have hge : ¬ ((i : Int) < (names.length : Int)) := of_decide_eq_false hif
    rw [any_none (fun j s hj hs => hlt j s (by omega) hs)]; rfl)
  exact e1
theorem z9 : tzero Tryz.prog 9 = some (.str []) := by kernel_rfl
theorem by9 : tbytes Tryz.prog 9 = some 16 := by kernel_rfl
theorem panels20 {c : List AV} (hc : HasT Tryz.prog 40 c) (hten : (panRows c).length ≤ 10) : Ev fun k => ∀ H : Heap, callN Tryz.prog cfgD k 20 [.agg c] H = some (.ret (.isl false ((panRows c).map fun r => [AV.str (rowName r)])), H) := by
  obtain ⟨a0, r0, rfl, h0, a1, r1, rfl, h1, a2, r2, rfl, h2, a3, r3, rfl, h3, a4, r4, rfl, h4, a5, r5, rfl, h5, a6, r6, rfl, h6, a7, r7, rfl, he, rfl⟩ := hc.fields un40 ft40
  obtain ⟨nm, rfl, -⟩ := h0.str_inv un9
  obtain ⟨i1, rfl, -⟩ := h1.int_inv un3
  obtain ⟨i2, rfl, -⟩ := h2.int_inv un3
  obtain ⟨i3, rfl, -⟩ := h3.int_inv un2
  obtain ⟨x4, w4, rfl, -⟩ := h4.sl_inv un33
  obtain ⟨x5, w5, rfl, -⟩ := h5.sl_inv un34
  obtain ⟨x6, w6, rfl, s6, hx6, hr6, hl6, hm6⟩ := h6.sl_inv un35
  obtain ⟨a0, r0, rfl, h0, a1, r1, rfl, h1, a2, r2, rfl, h2, a3, r3, rfl, h3, a4, r4, rfl, h4, rfl⟩ := he.fields un38 ft38
  obtain ⟨o, rfl, -⟩ := h0.int_inv un3
  obtain ⟨s, rfl, -⟩ := h1.str_inv un9
  obtain ⟨q, rfl, -⟩ := h2.int_inv un2
  obtain ⟨x, rows, rfl, sx, -⟩ := h3.sl_inv un36
  obtain ⟨p, rfl, -⟩ := h4.int_inv un3
  simp only [List.append_nil, List.cons_append, List.nil_append] at hc hten ⊢
  clear h0 h1 h2 h3 h4 he
  have hpan : panRows [.str nm, .int .i64 i1, .int .i64 i2, .int .i64 i3, x4, x5, x6, .int .i64 o, .str s, .int .i64 q, x, .int .i64 p] = w6 := by cases s6 <;> rfl
  rw [hpan] at hten ⊢
  refine (Ev.ge (w6.length + 1)).succ fun k hk H => ?_
  obtain ⟨v, e1, rfl⟩ := call_pure (P := Tryz.prog) (cfg := cfgD) (k := k) (H := H) (f := 20) (args := [.agg [.str nm, .int .i64 i1, .int .i64 i2, .int .i64 i3, x4, x5, x6, .int .i64 o, .str s, .int .i64 q, x, .int .i64 p]]) (R := fun v => v = .isl false (w6.map fun r => [AV.str (rowName r)])) rfl rfl rfl Tryz.func20 rfl b20 (by rw [nt20]; simp) (frz1 (hc.aggA (by simp))) (by
    rw [nt20]
    refine rg_seq (rg_region l20_0 ?_)
    refine x_box rfl rfl hc.all ?_
    refine x_assign rfl ?_
    refine og_nil (rg_seq (rg_region l20_1 ?_))
    refine x_buildSlice rfl (slice0 un23 ts9 z9 rfl (by omega)) ?_
    refine x_assign rfl ?_
    refine og_nil (rg_seq (rg_seq (rg_region l20_2 ?_)))
    refine x_assign rfl ?_
    refine og_nil ?_
    refine rg_block (rg_loop (fun z g H => ∃ (i id : Nat), g 1 = .ptr 0 0 ∧ H.get 0 = .row true 40 [.str nm, .int .i64 i1, .int .i64 i2, .int .i64 i3, x4, x5, x6, .int .i64 o, .str s, .int .i64 q, x, .int .i64 p] ∧ g 4 = .int .i64 i ∧ i ≤ w6.length ∧ z = w6.length - i ∧ g 3 = .sl id 0 i 1 ∧ H.get id = .row false 9 ((w6.take i).map fun r => AV.str (rowName r)) ∧ id ≠ 0) (m := w6.length) (by omega) ⟨0, 1, rfl, get_push_row (get_push_new _ _), rfl, Nat.zero_le _, rfl, rfl, get_push_new _ _, by omega⟩ ?_)
    rintro z g H ⟨i, id, g1, hh, g4, hi, rfl, g3, hid, hid0⟩
    refine rg_seq (rg_seq (rg_region l20_3 ?_))
    refine og_all (fun g' H' => H = H' ∧ g' 1 = .ptr 0 0 ∧ g' 4 = .int .i64 i ∧ g' 3 = .sl id 0 i 1 ∧ g' 10 = .bool (decide ((i : Int) < (w6.length : Int)))) ?_ ?_
    · refine x_move (congrArg some g4) ?_
      refine x_fieldAddr (congrArg some g1) fo40_6 ?_
      refine x_load1 rfl ta35 hh (by rfl) ?_
      refine x_len (evsC rfl evs0) rfl rfl (len_sl un35 (by assumption)) ?_
      refine x_bin rfl rfl rfl ?_
      exact og_nil ⟨rfl, g1, g4, g3, rfl⟩
    rintro g H' ⟨rfl, g1, g4, g3, g10⟩
    refine rg_cond (congrArg some g10) (fun hcd => rg_skip ?_) (fun hif => rg_exit ?_)
    · have hil : i < w6.length := by have := of_decide_eq_true hcd; omega
      obtain ⟨r, hri⟩ : ∃ r, w6[i]? = some r := ⟨w6[i], List.getElem?_eq_getElem hil⟩
      have hrm : r ∈ w6 := List.mem_of_getElem? hri
      obtain ⟨sn, rest, hrs, hrn⟩ := name_row (hr6 r hrm) un57 ft57
      have hxi : x6 = .isl true w6 := by
        rcases hx6 with ⟨rfl, rfl⟩ | rfl
        · simp at hil
        · rfl
      subst hxi
      refine rg_seq (rg_block (rg_region l20_4 ?_))
      refine x_move (congrArg some g3) ?_
      refine x_fieldAddr (congrArg some g1) fo40_6 ?_
      refine x_load1 rfl ta35 (hh) (by rfl) ?_
      refine x_move (congrArg some g4) ?_
      refine x_indexAddrI rfl rfl ix35 hri (by rw [hl6 r hrm, co57]) ?_
      refine x_fieldAddrE rfl fo57_0 ?_
      refine x_load1E (v := .str sn) rfl ta9 (by rw [hrs]; rfl) ?_
      refine x_buildSlice (parts1 rfl) (slice1 un23 ts9 z9 rfl rfl) ?_
      refine x_append (evsC rfl (evsC rfl evs0)) rfl rfl un23 ⟨_, un23⟩ (append1 ts9 by9 z9 rfl (get_push_row hid) (by simp; omega) (get_push_new _ _) (by omega) (by omega)) ?_
      refine x_assign rfl ?_
      refine og_nil ?_
      have hidn : id < H.n := Heap.get_lt (hid ▸ trivial)
      have h0n : 0 < H.n := Heap.get_lt (hh ▸ trivial)
      refine rg_region l20_5 ?_
      refine x_move (congrArg some g4) ?_
      refine x_inc rfl (by omega) ?_
      refine x_assign rfl ?_
      refine og_nil ⟨w6.length - (i + 1), by omega, i + 1, _, g1, get_push_row ((get_set_other _ (by omega) (Nat.lt_succ_of_lt hidn)).trans (get_push_row hh)), rfl, by omega, rfl, rfl, ?_, ?_⟩
      · refine (get_push_new ((H.push _).set id .dead) _).trans ?_
        have e := take_map_succ (f := fun r => AV.str (rowName r)) hri
        rw [hrn] at e
        exact congrArg (Ob.row false 9) e
      · show H.n + 1 ≠ 0
        omega
    show RG _ _ _ _ _ _ _ _
    have hge : ¬ ((i : Int) < (w6.length : Int)) := of_decide_eq_false hif
    have hie : i = w6.length := by omega
    subst hie
    refine rg_seq (rg_region l20_6 ?_)
    refine x_move (congrArg some g3) ?_
    refine x_assign rfl ?_
    refine og_nil (rg_ret fun tm htm => ⟨_, .isl false (w6.map fun r => [AV.str (rowName r)]), res1 rs20 tm _, ?_, rfl⟩)
    rw [htm]
    have hid2 : H.get id = .row false 9 ((w6.map rowName).map AV.str) := by rw [hid, List.take_length, List.map_map]; rfl
    have := frz_strs hid2 (by simp; omega)
    rw [List.length_map, List.map_map] at this
    exact this)
  exact e1
end Go.Proofs.YthmmpnkmjbfimaaGreatDoor

/- What a name means in a ruleset: the reference's answer; the program's searches. -/
open Go Go.Ab Go.Proofs
namespace Go.Proofs.YthmmpnkmjbfimaaGreatDoor
set_option linter.unusedVariables false
set_option linter.unusedSectionVars false
variable [HasBase]
def difficultyB : List UInt8 := [100, 105, 102, 102, 105, 99, 117, 108, 116, 121]
def penaltiesB : List UInt8 := [112, 101, 110, 97, 108, 116, 105, 101, 115]
def bestB : List UInt8 := [98, 101, 115, 116]
def critTail (nm : List UInt8) : Int := bif nm == difficultyB then 3 else bif nm == penaltiesB then 4 else bif nm == bestB then 5 else 0
def segHas (ws : List (List AV)) (nm : List UInt8) : Bool := ws.any fun r => rowName r == nm
def panHas (ws : List (List AV)) (nm : List UInt8) : Bool := ws.any fun r => (panRows r).any fun p => rowName p == nm
def critOf (ws : List (List AV)) (nm : List UInt8) : Int := bif segHas ws nm then 1 else bif panHas ws nm then 2 else critTail nm
theorem crit8 {c : List AV} (hc : HasT Tryz.prog 30 c) (nm : List UInt8) (hten : ∀ r, r ∈ segRows c → (panRows r).length ≤ 10) : Ev fun k => ∀ H : Heap, callN Tryz.prog cfgD k 8 [.agg c, .str nm] H = some (.ret (.int .i64 (critOf (segRows c) nm)), H) := by
  obtain ⟨a0, r0, rfl, h0, a1, r1, rfl, h1, a2, r2, rfl, h2, a3, r3, rfl, h3, a4, r4, rfl, h4, a5, r5, rfl, h5, a6, r6, rfl, h6, a7, r7, rfl, h7, rfl⟩ := hc.fields un30 ft30
  obtain ⟨rn, rfl, -⟩ := h0.str_inv un9
  obtain ⟨se, rfl, -⟩ := h1.int_inv un3
  obtain ⟨di, rfl, -⟩ := h2.int_inv un3
  obtain ⟨mo, rfl, -⟩ := h3.int_inv un3
  obtain ⟨ex, rfl⟩ := h4.bool_inv un4
  obtain ⟨xt, wt, rfl, st, -⟩ := h6.sl_inv un23
  obtain ⟨xs, ws, rfl, ss, hxs, hws, hwl, hmax⟩ := h7.sl_inv un28
  obtain ⟨a0, r0, rfl, h0, a1, r1, rfl, h1, a2, r2, rfl, h2, a3, r3, rfl, h3, rfl⟩ := h5.fields un27 ft27
  obtain ⟨c0, w0, rfl, s0, -⟩ := h0.sl_inv un22
  obtain ⟨c1, w1, rfl, s1, -⟩ := h1.sl_inv un23
  obtain ⟨c2, w2, rfl, s2, -⟩ := h2.sl_inv un24
  obtain ⟨c3, w3, rfl, s3, -⟩ := h3.sl_inv un25
  simp only [List.append_nil, List.cons_append, List.nil_append] at hc hten ⊢
  clear h0 h1 h2 h3 h4 h5 h6 h7
  have hsr : segRows [.str rn, .int .i64 se, .int .i64 di, .int .i64 mo, .bool ex, c0, c1, c2, c3, xt, xs] = ws := by cases ss <;> rfl
  rw [hsr] at hten ⊢
  have hpan : Ev fun k => ∀ r, r ∈ ws → ∀ H : Heap, callN Tryz.prog cfgD k 20 [.agg r] H = some (.ret (.isl false ((panRows r).map fun p => [AV.str (rowName p)])), H) := Ev.all fun r hm => panels20 (hws r hm) (hten r hm)
  have hhas : Ev fun k => ∀ r, r ∈ ws → ∀ H : Heap, callN Tryz.prog cfgD k 19 [.isl false ((panRows r).map fun p => [AV.str (rowName p)]), .str nm] H = some (.ret (.bool ((panRows r).any fun p => rowName p == nm)), H) := Ev.all fun r hm => by
    have h10 := hten r hm
    have := has19 (names := (panRows r).map rowName) (x := .isl false ((panRows r).map fun p => [AV.str (rowName p)])) (by rw [List.map_map]; exact .isl _ _) (by rw [List.length_map]; exact Nat.le_trans h10 (by decide)) nm
    rw [List.any_map] at this
    exact this
  refine ((hpan.and hhas).and (Ev.ge (ws.length + 1))).succ fun k hk H => ?_
  obtain ⟨⟨hpan, hhas⟩, hge⟩ := hk
  obtain ⟨v, e1, rfl⟩ := call_pure (P := Tryz.prog) (cfg := cfgD) (k := k) (H := H) (f := 8) (args := [.agg [.str rn, .int .i64 se, .int .i64 di, .int .i64 mo, .bool ex, c0, c1, c2, c3, xt, xs], .str nm]) (R := fun v => v = .int .i64 (critOf ws nm)) rfl rfl rfl Tryz.func8 rfl b8 (by rw [nt8]; simp) (frz2 (hc.aggA (by simp)) (flat_str _).A) (by
    rw [nt8]
    refine rg_seq (rg_region l8_0 ?_)
    refine og_all (fun g' H' => g' 2 = .ptr 0 0 ∧ g' 1 = .str nm ∧ H'.get 0 = .row true 30 [.str rn, .int .i64 se, .int .i64 di, .int .i64 mo, .bool ex, c0, c1, c2, c3, xt, xs]) ?_ ?_
    · refine x_box rfl rfl hc.all ?_
      refine x_assign rfl ?_
      exact og_nil ⟨rfl, rfl, get_push_new _ _⟩
    rintro g H0 ⟨g2, g1, hh⟩
    refine rg_seq (rg_seq (rg_region l8_1 ?_))
    refine x_assign rfl ?_
    refine og_nil ?_
    refine rg_block (rg_loop (fun z g H => ∃ i : Nat, g 2 = .ptr 0 0 ∧ g 1 = .str nm ∧ H0 = H ∧ g 5 = .int .i64 i ∧ i ≤ ws.length ∧ z = ws.length - i ∧ ∀ (j : Nat) (r : List AV), j < i → ws[j]? = some r → (rowName r == nm) = false) (m := ws.length) (by omega) ⟨0, g2, g1, rfl, rfl, Nat.zero_le _, rfl, fun j r h => absurd h (by omega)⟩ ?_)
    rintro z g H ⟨i, g2, g1, rfl, g5, hi, rfl, hlt⟩
    refine rg_seq (rg_seq (rg_region l8_2 ?_))
    refine og_all (fun g' H' => H0 = H' ∧ g' 2 = .ptr 0 0 ∧ g' 1 = .str nm ∧ g' 5 = .int .i64 i ∧ g' 11 = .bool (decide ((i : Int) < (ws.length : Int)))) ?_ ?_
    · refine x_move (congrArg some g5) ?_
      refine x_fieldAddr (congrArg some g2) fo30_7 ?_
      refine x_load1 rfl ta28 hh (by rfl) ?_
      refine x_len (evsC rfl evs0) rfl rfl (len_sl un28 (by assumption)) ?_
      refine x_bin rfl rfl rfl ?_
      exact og_nil ⟨rfl, g2, g1, g5, rfl⟩
    rintro g H ⟨rfl, g2, g1, g5, g11⟩
    refine rg_cond (congrArg some g11) (fun hcd => rg_skip ?_) (fun hif => rg_exit ?_)
    · have hil : i < ws.length := by have := of_decide_eq_true hcd; omega
      obtain ⟨r, hri⟩ : ∃ r, ws[i]? = some r := ⟨ws[i], List.getElem?_eq_getElem hil⟩
      have hrm : r ∈ ws := List.mem_of_getElem? hri
      have hxi : xs = .isl true ws := by
        rcases hxs with ⟨rfl, rfl⟩ | rfl
        · simp at hil
        · rfl
      subst hxi
      have hrl : r.length = 12 := by rw [hwl r hrm, co40]
      obtain ⟨sn, rest, hrs, hrn⟩ := name_row (hws r hrm) un40 ft40
      refine rg_seq (rg_block (rg_seq (rg_region l8_3 ?_)))
      refine og_all (fun g' H' => H0 = H' ∧ g' 2 = .ptr 0 0 ∧ g' 1 = .str nm ∧ g' 5 = .int .i64 i ∧ g' 21 = .bool (sn == nm)) ?_ ?_
      · refine x_fieldAddr (congrArg some g2) fo30_7 ?_
        refine x_load1 rfl ta28 hh (by rfl) ?_
        refine x_move (congrArg some g5) ?_
        refine x_indexAddrI rfl rfl ix28 hri hrl ?_
        refine x_fieldAddrE rfl fo40_0 ?_
        refine x_load1E (v := .str sn) rfl ta9 (by rw [hrs]; rfl) ?_
        refine x_move (congrArg some g1) ?_
        refine x_bin rfl rfl rfl ?_
        exact og_nil ⟨rfl, g2, g1, g5, rfl⟩
      rintro g H ⟨rfl, g2, g1, g5, g21⟩
      refine rg_cond (congrArg some g21) (fun hb => ?_) (fun hb => rg_skip ?_)
      · refine rg_seq (rg_region l8_4 ?_)
        refine x_assign rfl ?_
        refine og_nil (rg_ret (res_tmpF rs8 rfl (frz_int _ _ _ _) ?_))
        have : segHas ws nm = true := any_of_get hri (by rw [hrn]; exact hb)
        unfold critOf
        rw [this]; rfl
      refine rg_region l8_5 ?_
      refine x_move (congrArg some g5) ?_
      refine x_inc rfl (by omega) ?_
      refine x_assign rfl ?_
      refine og_nil ⟨ws.length - (i + 1), by omega, i + 1, g2, g1, rfl, rfl, by omega, rfl, fun j r' hj hr' => ?_⟩
      by_cases hji : j = i
      · subst hji
        rw [hri] at hr'
        cases hr'
        rw [hrn]; exact hb
      · exact hlt j r' (by omega) hr'
    show RG _ _ _ _ _ _ _ _
    have hge1 : ¬ ((i : Int) < (ws.length : Int)) := of_decide_eq_false hif
    have hseg : segHas ws nm = false := any_none fun j r hj hr => hlt j r (by omega) hr
    clear hlt hi hif g11 g5 hge1
    refine rg_seq (rg_seq (rg_region l8_6 ?_))
    refine x_assign rfl ?_
    refine og_nil ?_
    refine rg_block (rg_loop (fun z g H => ∃ i : Nat, g 2 = .ptr 0 0 ∧ g 1 = .str nm ∧ H0 = H ∧ g 6 = .int .i64 i ∧ i ≤ ws.length ∧ z = ws.length - i ∧ ∀ (j : Nat) (r : List AV), j < i → ws[j]? = some r → ((panRows r).any fun p => rowName p == nm) = false) (m := ws.length) (by omega) ⟨0, g2, g1, rfl, rfl, Nat.zero_le _, rfl, fun j r h => absurd h (by omega)⟩ ?_)
    rintro z g H ⟨i, g2, g1, rfl, g6, hi, rfl, hlt⟩
    refine rg_seq (rg_seq (rg_region l8_7 ?_))
    refine og_all (fun g' H' => H0 = H' ∧ g' 2 = .ptr 0 0 ∧ g' 1 = .str nm ∧ g' 6 = .int .i64 i ∧ g' 26 = .bool (decide ((i : Int) < (ws.length : Int)))) ?_ ?_
    · refine x_move (congrArg some g6) ?_
      refine x_fieldAddr (congrArg some g2) fo30_7 ?_
      refine x_load1 rfl ta28 hh (by rfl) ?_
      refine x_len (evsC rfl evs0) rfl rfl (len_sl un28 (by assumption)) ?_
      refine x_bin rfl rfl rfl ?_
      exact og_nil ⟨rfl, g2, g1, g6, rfl⟩
    rintro g H ⟨rfl, g2, g1, g6, g26⟩
    refine rg_cond (congrArg some g26) (fun hcd => rg_skip ?_) (fun hif => rg_exit ?_)
    · have hil : i < ws.length := by have := of_decide_eq_true hcd; omega
      obtain ⟨r, hri⟩ : ∃ r, ws[i]? = some r := ⟨ws[i], List.getElem?_eq_getElem hil⟩
      have hrm : r ∈ ws := List.mem_of_getElem? hri
      have hxi : xs = .isl true ws := by
        rcases hxs with ⟨rfl, rfl⟩ | rfl
        · simp at hil
        · rfl
      subst hxi
      have hrl : r.length = 12 := by rw [hwl r hrm, co40]
      have hp := hpan r hrm H0
      have hq := hhas r hrm H0
      refine rg_seq (rg_block (rg_seq (rg_region l8_8 ?_)))
      refine og_all (fun g' H' => H0 = H' ∧ g' 2 = .ptr 0 0 ∧ g' 1 = .str nm ∧ g' 6 = .int .i64 i ∧ g' 36 = .bool ((panRows r).any fun p => rowName p == nm)) ?_ ?_
      · refine x_fieldAddr (congrArg some g2) fo30_7 ?_
        refine x_load1 rfl ta28 hh (by rfl) ?_
        refine x_move (congrArg some g6) ?_
        refine x_indexAddrI rfl rfl ix28 hri hrl ?_
        refine x_loadNE rfl ta40 ts40 (r := r) (by rw [List.drop_zero, List.take_of_length_le (by rw [hrl]; exact Nat.le_refl _)]) hrl ?_
        refine x_call (evsC rfl evs0) rfl hp ?_
        refine x_move (congrArg some g1) ?_
        refine x_call (evsC rfl (evsC rfl evs0)) rfl hq ?_
        exact og_nil ⟨rfl, g2, g1, g6, rfl⟩
      rintro g H ⟨rfl, g2, g1, g6, g36⟩
      refine rg_cond (congrArg some g36) (fun hb => ?_) (fun hb => rg_skip ?_)
      · refine rg_seq (rg_region l8_9 ?_)
        refine x_assign rfl ?_
        refine og_nil (rg_ret (res_tmpF rs8 rfl (frz_int _ _ _ _) ?_))
        have : panHas ws nm = true := any_of_get hri hb
        unfold critOf
        rw [hseg, this]; rfl
      refine rg_region l8_10 ?_
      refine x_move (congrArg some g6) ?_
      refine x_inc rfl (by omega) ?_
      refine x_assign rfl ?_
      refine og_nil ⟨ws.length - (i + 1), by omega, i + 1, g2, g1, rfl, rfl, by omega, rfl, fun j r' hj hr' => ?_⟩
      by_cases hji : j = i
      · subst hji
        rw [hri] at hr'
        cases hr'
        exact hb
      · exact hlt j r' (by omega) hr'
    show RG _ _ _ _ _ _ _ _
    have hge1 : ¬ ((i : Int) < (ws.length : Int)) := of_decide_eq_false hif
    have hnp : panHas ws nm = false := any_none fun j r hj hr => hlt j r (by omega) hr
    have hcr : critOf ws nm = critTail nm := by unfold critOf; rw [hseg, hnp]; rfl
    rw [hcr]
    refine rg_seq (rg_seq (rg_region l8_11 ?_))
    refine x_move (congrArg some g1) ?_
    refine og_nil (rg_block (rg_seq (rg_region l8_12 ?_)))
    refine og_all (fun g' H' => g' 37 = .str nm ∧ g' 38 = .bool (nm == difficultyB)) ?_ ?_
    · refine x_bin rfl rfl rfl ?_
      refine x_assign rfl ?_
      exact og_nil ⟨rfl, rfl⟩
    rintro g H ⟨g37, g38⟩
    refine rg_cond (congrArg some g38) (fun hb => ?_) (fun hb1 => ?_)
    · refine rg_seq (rg_region l8_13 ?_)
      refine x_assign rfl ?_
      refine og_nil (rg_ret (res_tmpF rs8 rfl (frz_int _ _ _ _) ?_))
      unfold critTail; rw [hb]; rfl
    refine rg_seq (rg_region l8_14 ?_)
    refine og_all (fun g' H' => g' 37 = .str nm ∧ g' 40 = .bool (nm == penaltiesB)) ?_ ?_
    · refine x_bin (congrArg some g37) rfl rfl ?_
      refine x_assign rfl ?_
      exact og_nil ⟨g37, rfl⟩
    rintro g H ⟨g37, g40⟩
    refine rg_cond (congrArg some g40) (fun hb => ?_) (fun hb2 => ?_)
    · refine rg_seq (rg_region l8_15 ?_)
      refine x_assign rfl ?_
      refine og_nil (rg_ret (res_tmpF rs8 rfl (frz_int _ _ _ _) ?_))
      unfold critTail; rw [hb1, hb]; rfl
    refine rg_seq (rg_region l8_16 ?_)
    refine og_all (fun g' H' => g' 42 = .bool (nm == bestB)) ?_ ?_
    · refine x_bin (congrArg some g37) rfl rfl ?_
      refine x_assign rfl ?_
      exact og_nil rfl
    rintro g H g42
    refine rg_cond (congrArg some g42) (fun hb => ?_) (fun hb3 => rg_skip ?_)
    · refine rg_seq (rg_region l8_17 ?_)
      refine x_assign rfl ?_
      refine og_nil (rg_ret (res_tmpF rs8 rfl (frz_int _ _ _ _) ?_))
      unfold critTail; rw [hb1, hb2, hb]; rfl
    refine rg_seq (rg_region l8_18 ?_)
    refine x_assign rfl ?_
    refine og_nil (rg_ret (res_tmpF rs8 rfl (frz_int _ _ _ _) ?_))
    unfold critTail; rw [hb1, hb2, hb3]; rfl)
  exact e1
/-- The closure that holds a name against an element's. -/
theorem clo16 {c : List AV} (hc : HasT Tryz.prog 40 c) (nm : List UInt8) (id : Nat) : ∀ (k : Nat) (H : Heap), H.get id = .row true 9 [.str nm] → ∃ H', callN Tryz.prog cfgD (k + 1) 16 [.agg c, .ptr id 0] H = some (.ret (.bool (rowName c == nm)), H') ∧ Grow H H' := by
  intro k H hid
  obtain ⟨sn, rest, rfl, hrn⟩ := name_row hc un40 ft40
  rw [hrn]
  obtain ⟨v, H', e1, rfl, hg⟩ := call_in (P := Tryz.prog) (cfg := cfgD) (k := k) (H := H) (f := 16) (args := [.agg (.str sn :: rest), .ptr id 0]) (R := fun v H' => v = .bool (sn == nm) ∧ Grow H H') rfl rfl rfl Tryz.func16 rfl b16 (by rw [nt16]; simp) (by
    rw [nt16]
    refine rg_seq (rg_region l16_0 ?_)
    refine x_box rfl rfl hc.all ?_
    refine x_assign rfl ?_
    refine og_nil (rg_seq (rg_region l16_1 ?_))
    refine x_fieldAddr rfl fo40_0 ?_
    refine x_load1 rfl ta9 (get_push_new _ _) rfl ?_
    refine x_load1 rfl ta9 (get_push_row hid) rfl ?_
    refine x_bin rfl rfl rfl ?_
    refine x_assign rfl ?_
    exact og_nil (rg_ret (res_tmp (R := fun v => v = .bool (sn == nm) ∧ Grow H _) rs16 rfl ⟨rfl, Grow.push _ _⟩)))
  exact ⟨H', e1, hg⟩
/-- The closure that holds a name against an element's. -/
theorem clo18 {c : List AV} (hc : HasT Tryz.prog 57 c) (nm : List UInt8) (id : Nat) : ∀ (k : Nat) (H : Heap), H.get id = .row true 9 [.str nm] → ∃ H', callN Tryz.prog cfgD (k + 1) 18 [.agg c, .ptr id 0] H = some (.ret (.bool (rowName c == nm)), H') ∧ Grow H H' := by
  intro k H hid
  obtain ⟨sn, rest, rfl, hrn⟩ := name_row hc un57 ft57
  rw [hrn]
  obtain ⟨v, H', e1, rfl, hg⟩ := call_in (P := Tryz.prog) (cfg := cfgD) (k := k) (H := H) (f := 18) (args := [.agg (.str sn :: rest), .ptr id 0]) (R := fun v H' => v = .bool (sn == nm) ∧ Grow H H') rfl rfl rfl Tryz.func18 rfl b18 (by rw [nt18]; simp) (by
    rw [nt18]
    refine rg_seq (rg_region l18_0 ?_)
    refine x_box rfl rfl hc.all ?_
    refine x_assign rfl ?_
    refine og_nil (rg_seq (rg_region l18_1 ?_))
    refine x_fieldAddr rfl fo57_0 ?_
    refine x_load1 rfl ta9 (get_push_new _ _) rfl ?_
    refine x_load1 rfl ta9 (get_push_row hid) rfl ?_
    refine x_bin rfl rfl rfl ?_
    refine x_assign rfl ?_
    exact og_nil (rg_ret (res_tmp (R := fun v => v = .bool (sn == nm) ∧ Grow H _) rs18 rfl ⟨rfl, Grow.push _ _⟩)))
  exact ⟨H', e1, hg⟩
/-- The first element of that name. -/
theorem idx15 {x : AV} {ws : List (List AV)} (hxs : x = .nils ∧ ws = [] ∨ x = .isl true ws) (hws : ∀ r, r ∈ ws → HasT Tryz.prog 40 r) (hwl : ∀ r, r ∈ ws → r.length = Tryz.prog.cellsOf 40) (hmax : ws.length ≤ maxLen) (nm : List UInt8) : Ev fun k => ∀ (id : Nat) (H : Heap), H.get id = .row true 9 [.str nm] → ∃ v H', callN Tryz.prog cfgD k 15 [x, .fn 16 [.ptr id 0]] H = some (.ret (.int .i64 v), H') ∧ Grow H H' ∧ IsIdx (fun r => rowName r == nm) ws v := by
  have hss : IsSl x ws := by rcases hxs with ⟨rfl, rfl⟩ | rfl; exact .nils; exact .isl _ _
  refine (Ev.ge (ws.length + 1)).succ fun k hk id H hid => ?_
  obtain ⟨k, rfl⟩ : ∃ m, k = m + 1 := ⟨k - 1, by omega⟩
  obtain ⟨v, H', e1, w, rfl, hg, hx⟩ := call_in (P := Tryz.prog) (cfg := cfgD) (k := k + 1) (H := H) (f := 15) (args := [x, .fn 16 [.ptr id 0]]) (R := fun v H' => ∃ w, v = .int .i64 w ∧ Grow H H' ∧ IsIdx (fun r => rowName r == nm) ws w) rfl rfl rfl Tryz.func15 rfl b15 (by rw [nt15]; simp) (by
    rw [nt15]
    refine rg_seq (rg_region l15_0 ?_)
    refine x_assign rfl ?_
    refine og_nil (rg_seq (rg_seq (rg_region l15_1 ?_)))
    refine x_move rfl ?_
    refine x_len (evsC rfl evs0) rfl rfl (len_sl un28 hss) ?_
    refine x_move rfl ?_
    refine og_nil ?_
    refine rg_block (rg_loop (fun z g H1 => ∃ i : Nat, g 0 = x ∧ g 1 = .fn 16 [.ptr id 0] ∧ Grow H H1 ∧ g 7 = .int .i64 ws.length ∧ g 8 = .int .i64 i ∧ i ≤ ws.length ∧ z = ws.length - i ∧ ∀ (j : Nat) (r : List AV), j < i → ws[j]? = some r → (rowName r == nm) = false) (m := ws.length) (by omega) ⟨0, rfl, rfl, Grow.refl _, rfl, rfl, Nat.zero_le _, rfl, fun j r h => absurd h (by omega)⟩ ?_)
    rintro z g H1 ⟨i, g0, g1, hgr, g7, g8, hi, rfl, hlt⟩
    refine rg_seq (rg_region l15_2 ?_)
    refine og_all (fun g' H' => H1 = H' ∧ g' 0 = x ∧ g' 1 = .fn 16 [.ptr id 0] ∧ g' 7 = .int .i64 ws.length ∧ g' 8 = .int .i64 i ∧ g' 9 = .bool (decide ((i : Int) < (ws.length : Int)))) ?_ ?_
    · refine x_bin (congrArg some g8) (congrArg some g7) rfl ?_
      exact og_nil ⟨rfl, g0, g1, g7, g8, rfl⟩
    rintro g H2 ⟨rfl, g0, g1, g7, g8, g9⟩
    refine rg_seq (rg_cond (congrArg some g9) (fun hcd => rg_skip ?_) (fun hif => rg_exit ?_))
    · have hil : i < ws.length := by have := of_decide_eq_true hcd; omega
      obtain ⟨r, hri⟩ : ∃ r, ws[i]? = some r := ⟨ws[i], List.getElem?_eq_getElem hil⟩
      have hrm : r ∈ ws := List.mem_of_getElem? hri
      have hxi : x = .isl true ws := by
        rcases hxs with ⟨rfl, rfl⟩ | rfl
        · simp at hil
        · rfl
      subst hxi
      have hrl : r.length = 12 := by rw [hwl r hrm, co40]
      obtain ⟨H3, hcl, hg3⟩ := clo16 (hws r hrm) nm id k H1 (hgr.row hid)
      refine rg_seq (rg_block (rg_seq (rg_region l15_3 ?_)))
      refine x_move (congrArg some g8) ?_
      refine x_assign rfl ?_
      refine og_nil (rg_seq (rg_region l15_4 ?_))
      refine og_all (fun g' H' => H3 = H' ∧ g' 0 = .isl true ws ∧ g' 1 = .fn 16 [.ptr id 0] ∧ g' 7 = .int .i64 ws.length ∧ g' 8 = .int .i64 i ∧ g' 5 = .int .i64 i ∧ g' 16 = .bool (rowName r == nm)) ?_ ?_
      · refine x_move (congrArg some g1) ?_
        refine x_move (congrArg some g0) ?_
        refine x_move rfl ?_
        refine x_indexAddrI rfl rfl ix28 hri hrl ?_
        refine x_loadNE rfl ta40 ts40 (r := r) (by rw [List.drop_zero, List.take_of_length_le (by rw [hrl]; exact Nat.le_refl _)]) hrl ?_
        refine x_call (evsC rfl evs0) rfl hcl ?_
        exact og_nil ⟨rfl, g0, g1, g7, g8, rfl, rfl⟩
      rintro g H4 ⟨rfl, g0, g1, g7, g8, g5, g16⟩
      refine rg_cond (congrArg some g16) (fun hb => ?_) (fun hb => rg_skip ?_)
      · refine rg_seq (rg_region l15_5 ?_)
        refine x_move (congrArg some g5) ?_
        refine x_assign rfl ?_
        exact og_nil (rg_ret (res_tmp (R := fun v => ∃ w, v = .int .i64 w ∧ Grow H _ ∧ IsIdx (fun r => rowName r == nm) ws w) rs15 rfl ⟨_, rfl, hgr.trans hg3, .inl ⟨i, r, hri, hb, hlt, rfl⟩⟩))
      refine rg_region l15_6 ?_
      refine x_inc (congrArg some g8) (by omega) ?_
      refine x_move rfl ?_
      refine og_nil ⟨ws.length - (i + 1), by omega, i + 1, g0, g1, hgr.trans hg3, g7, rfl, by omega, rfl, fun j r' hj hr' => ?_⟩
      by_cases hji : j = i
      · subst hji
        rw [hri] at hr'
        cases hr'
        exact hb
      · exact hlt j r' (by omega) hr'
    show RG _ _ _ _ _ _ _ _
    have hge1 : ¬ ((i : Int) < (ws.length : Int)) := of_decide_eq_false hif
    refine rg_seq (rg_region l15_7 ?_)
    refine x_assign rfl ?_
    refine og_nil (rg_ret (res_tmp (R := fun v => ∃ w, v = .int .i64 w ∧ Grow H _ ∧ IsIdx (fun r => rowName r == nm) ws w) rs15 rfl ⟨_, rfl, hgr, .inr ⟨fun r hr => ?_, rfl⟩⟩))
    obtain ⟨j, hj⟩ := List.getElem?_of_mem hr
    have hjl : j < ws.length := (List.getElem?_eq_some_iff.1 hj).1
    exact hlt j r (by omega) hj)
  exact ⟨w, H', e1, hg, hx⟩
/-- The first element of that name. -/
theorem idx30 {x : AV} {ws : List (List AV)} (hxs : x = .nils ∧ ws = [] ∨ x = .isl true ws) (hws : ∀ r, r ∈ ws → HasT Tryz.prog 57 r) (hwl : ∀ r, r ∈ ws → r.length = Tryz.prog.cellsOf 57) (hmax : ws.length ≤ maxLen) (nm : List UInt8) : Ev fun k => ∀ (id : Nat) (H : Heap), H.get id = .row true 9 [.str nm] → ∃ v H', callN Tryz.prog cfgD k 30 [x, .fn 18 [.ptr id 0]] H = some (.ret (.int .i64 v), H') ∧ Grow H H' ∧ IsIdx (fun r => rowName r == nm) ws v := by
  have hss : IsSl x ws := by rcases hxs with ⟨rfl, rfl⟩ | rfl; exact .nils; exact .isl _ _
  refine (Ev.ge (ws.length + 1)).succ fun k hk id H hid => ?_
  obtain ⟨k, rfl⟩ : ∃ m, k = m + 1 := ⟨k - 1, by omega⟩
  obtain ⟨v, H', e1, w, rfl, hg, hx⟩ := call_in (P := Tryz.prog) (cfg := cfgD) (k := k + 1) (H := H) (f := 30) (args := [x, .fn 18 [.ptr id 0]]) (R := fun v H' => ∃ w, v = .int .i64 w ∧ Grow H H' ∧ IsIdx (fun r => rowName r == nm) ws w) rfl rfl rfl Tryz.func30 rfl b30 (by rw [nt30]; simp) (by
    rw [nt30]
    refine rg_seq (rg_region l30_0 ?_)
    refine x_assign rfl ?_
    refine og_nil (rg_seq (rg_seq (rg_region l30_1 ?_)))
    refine x_move rfl ?_
    refine x_len (evsC rfl evs0) rfl rfl (len_sl un35 hss) ?_
    refine x_move rfl ?_
    refine og_nil ?_
    refine rg_block (rg_loop (fun z g H1 => ∃ i : Nat, g 0 = x ∧ g 1 = .fn 18 [.ptr id 0] ∧ Grow H H1 ∧ g 7 = .int .i64 ws.length ∧ g 8 = .int .i64 i ∧ i ≤ ws.length ∧ z = ws.length - i ∧ ∀ (j : Nat) (r : List AV), j < i → ws[j]? = some r → (rowName r == nm) = false) (m := ws.length) (by omega) ⟨0, rfl, rfl, Grow.refl _, rfl, rfl, Nat.zero_le _, rfl, fun j r h => absurd h (by omega)⟩ ?_)
    rintro z g H1 ⟨i, g0, g1, hgr, g7, g8, hi, rfl, hlt⟩
    refine rg_seq (rg_region l30_2 ?_)
    refine og_all (fun g' H' => H1 = H' ∧ g' 0 = x ∧ g' 1 = .fn 18 [.ptr id 0] ∧ g' 7 = .int .i64 ws.length ∧ g' 8 = .int .i64 i ∧ g' 9 = .bool (decide ((i : Int) < (ws.length : Int)))) ?_ ?_
    · refine x_bin (congrArg some g8) (congrArg some g7) rfl ?_
      exact og_nil ⟨rfl, g0, g1, g7, g8, rfl⟩
    rintro g H2 ⟨rfl, g0, g1, g7, g8, g9⟩
    refine rg_seq (rg_cond (congrArg some g9) (fun hcd => rg_skip ?_) (fun hif => rg_exit ?_))
    · have hil : i < ws.length := by have := of_decide_eq_true hcd; omega
      obtain ⟨r, hri⟩ : ∃ r, ws[i]? = some r := ⟨ws[i], List.getElem?_eq_getElem hil⟩
      have hrm : r ∈ ws := List.mem_of_getElem? hri
      have hxi : x = .isl true ws := by
        rcases hxs with ⟨rfl, rfl⟩ | rfl
        · simp at hil
        · rfl
      subst hxi
      have hrl : r.length = 10 := by rw [hwl r hrm, co57]
      obtain ⟨H3, hcl, hg3⟩ := clo18 (hws r hrm) nm id k H1 (hgr.row hid)
      refine rg_seq (rg_block (rg_seq (rg_region l30_3 ?_)))
      refine x_move (congrArg some g8) ?_
      refine x_assign rfl ?_
      refine og_nil (rg_seq (rg_region l30_4 ?_))
      refine og_all (fun g' H' => H3 = H' ∧ g' 0 = .isl true ws ∧ g' 1 = .fn 18 [.ptr id 0] ∧ g' 7 = .int .i64 ws.length ∧ g' 8 = .int .i64 i ∧ g' 5 = .int .i64 i ∧ g' 16 = .bool (rowName r == nm)) ?_ ?_
      · refine x_move (congrArg some g1) ?_
        refine x_move (congrArg some g0) ?_
        refine x_move rfl ?_
        refine x_indexAddrI rfl rfl ix35 hri hrl ?_
        refine x_loadNE rfl ta57 ts57 (r := r) (by rw [List.drop_zero, List.take_of_length_le (by rw [hrl]; exact Nat.le_refl _)]) hrl ?_
        refine x_call (evsC rfl evs0) rfl hcl ?_
        exact og_nil ⟨rfl, g0, g1, g7, g8, rfl, rfl⟩
      rintro g H4 ⟨rfl, g0, g1, g7, g8, g5, g16⟩
      refine rg_cond (congrArg some g16) (fun hb => ?_) (fun hb => rg_skip ?_)
      · refine rg_seq (rg_region l30_5 ?_)
        refine x_move (congrArg some g5) ?_
        refine x_assign rfl ?_
        exact og_nil (rg_ret (res_tmp (R := fun v => ∃ w, v = .int .i64 w ∧ Grow H _ ∧ IsIdx (fun r => rowName r == nm) ws w) rs30 rfl ⟨_, rfl, hgr.trans hg3, .inl ⟨i, r, hri, hb, hlt, rfl⟩⟩))
      refine rg_region l30_6 ?_
      refine x_inc (congrArg some g8) (by omega) ?_
      refine x_move rfl ?_
      refine og_nil ⟨ws.length - (i + 1), by omega, i + 1, g0, g1, hgr.trans hg3, g7, rfl, by omega, rfl, fun j r' hj hr' => ?_⟩
      by_cases hji : j = i
      · subst hji
        rw [hri] at hr'
        cases hr'
        exact hb
      · exact hlt j r' (by omega) hr'
    show RG _ _ _ _ _ _ _ _
    have hge1 : ¬ ((i : Int) < (ws.length : Int)) := of_decide_eq_false hif
    refine rg_seq (rg_region l30_7 ?_)
    refine x_assign rfl ?_
    refine og_nil (rg_ret (res_tmp (R := fun v => ∃ w, v = .int .i64 w ∧ Grow H _ ∧ IsIdx (fun r => rowName r == nm) ws w) rs30 rfl ⟨_, rfl, hgr, .inr ⟨fun r hr => ?_, rfl⟩⟩))
    obtain ⟨j, hj⟩ := List.getElem?_of_mem hr
    have hjl : j < ws.length := (List.getElem?_eq_some_iff.1 hj).1
    exact hlt j r (by omega) hj)
  exact ⟨w, H', e1, hg, hx⟩
end Go.Proofs.YthmmpnkmjbfimaaGreatDoor

/- The program's Find and Criterion. -/
open Go Go.Ab Go.Proofs
namespace Go.Proofs.YthmmpnkmjbfimaaGreatDoor
set_option linter.unusedVariables false
set_option linter.unusedSectionVars false
variable [HasBase]
def zs40 : List AV := [.str [], .int .i64 0, .int .i64 0, .int .i64 0, .nils, .nils, .nils, .int .i64 0, .str [], .int .i64 0, .nils, .int .i64 0]
theorem al40 : F.alc Tryz.prog 40 = some zs40 := by kernel_rfl
theorem bu40 : buildA Tryz.prog 40 [] = some (.agg zs40) := by kernel_rfl
theorem pan_row {r : List AV} (h : HasT Tryz.prog 40 r) : ∃ x, r[6]? = some x ∧ (x = .nils ∧ panRows r = [] ∨ x = .isl true (panRows r)) ∧ (∀ p, p ∈ panRows r → HasT Tryz.prog 57 p) ∧ (∀ p, p ∈ panRows r → p.length = Tryz.prog.cellsOf 57) ∧ (panRows r).length ≤ maxLen := by
  obtain ⟨a0, r0, rfl, h0, a1, r1, rfl, h1, a2, r2, rfl, h2, a3, r3, rfl, h3, a4, r4, rfl, h4, a5, r5, rfl, h5, a6, r6, rfl, h6, a7, r7, rfl, he, rfl⟩ := h.fields un40 ft40
  obtain ⟨nm, rfl, -⟩ := h0.str_inv un9
  obtain ⟨i1, rfl, -⟩ := h1.int_inv un3
  obtain ⟨i2, rfl, -⟩ := h2.int_inv un3
  obtain ⟨i3, rfl, -⟩ := h3.int_inv un2
  obtain ⟨x4, w4, rfl, -⟩ := h4.sl_inv un33
  obtain ⟨x5, w5, rfl, -⟩ := h5.sl_inv un34
  obtain ⟨x6, w6, rfl, s6, hx6, hr6, hl6, hm6⟩ := h6.sl_inv un35
  have hp : panRows ([.str nm] ++ ([.int .i64 i1] ++ ([.int .i64 i2] ++ ([.int .i64 i3] ++ ([x4] ++ ([x5] ++ ([x6] ++ (a7 ++ [])))))))) = w6 := by cases s6 <;> rfl
  rw [hp]
  exact ⟨x6, rfl, hx6, hr6, hl6, hm6⟩
/-- What Find gives. -/
def Found (ws : List (List AV)) (nm : List UInt8) (s : List AV) (e : Int) : Prop :=
  (∃ i : Nat, ws[i]? = some s ∧ (rowName s == nm) = true ∧ (∀ (j : Nat) (r : List AV), j < i → ws[j]? = some r → (rowName r == nm) = false) ∧ e = 0) ∨ ((∀ r, r ∈ ws → (rowName r == nm) = false) ∧ s = zs40 ∧ e = 3)
theorem find6 {c : List AV} (hc : HasT Tryz.prog 30 c) {nm : List UInt8} (hnl : nm.length ≤ maxLen) : Ev fun k => ∀ H : Heap, H.wf → ∃ s e H', callN Tryz.prog cfgD k 6 [.agg c, .str nm] H = some (.ret (.tup [.agg s, .int .i64 e]), H') ∧ Grow H H' ∧ Found (segRows c) nm s e := by
  obtain ⟨a0, r0, rfl, h0, a1, r1, rfl, h1, a2, r2, rfl, h2, a3, r3, rfl, h3, a4, r4, rfl, h4, a5, r5, rfl, h5, a6, r6, rfl, h6, a7, r7, rfl, h7, rfl⟩ := hc.fields un30 ft30
  obtain ⟨rn, rfl, -⟩ := h0.str_inv un9
  obtain ⟨se, rfl, -⟩ := h1.int_inv un3
  obtain ⟨di, rfl, -⟩ := h2.int_inv un3
  obtain ⟨mo, rfl, -⟩ := h3.int_inv un3
  obtain ⟨ex, rfl⟩ := h4.bool_inv un4
  obtain ⟨xt, wt, rfl, st, -⟩ := h6.sl_inv un23
  obtain ⟨xs, ws, rfl, ss, hxs, hws, hwl, hmax⟩ := h7.sl_inv un28
  obtain ⟨a0, r0, rfl, h0, a1, r1, rfl, h1, a2, r2, rfl, h2, a3, r3, rfl, h3, rfl⟩ := h5.fields un27 ft27
  obtain ⟨c0, w0, rfl, s0, -⟩ := h0.sl_inv un22
  obtain ⟨c1, w1, rfl, s1, -⟩ := h1.sl_inv un23
  obtain ⟨c2, w2, rfl, s2, -⟩ := h2.sl_inv un24
  obtain ⟨c3, w3, rfl, s3, -⟩ := h3.sl_inv un25
  simp only [List.append_nil, List.cons_append, List.nil_append] at hc ⊢
  clear h0 h1 h2 h3 h4 h5 h6 h7
  have hsr : segRows [.str rn, .int .i64 se, .int .i64 di, .int .i64 mo, .bool ex, c0, c1, c2, c3, xt, xs] = ws := by cases ss <;> rfl
  rw [hsr]
  refine (idx15 hxs hws hwl hmax nm).succ fun k hidx H hwf => ?_
  obtain ⟨v, H', e1, s, e, rfl, hg, hf⟩ := call_in (P := Tryz.prog) (cfg := cfgD) (k := k) (H := H) (f := 6) (args := [.agg [.str rn, .int .i64 se, .int .i64 di, .int .i64 mo, .bool ex, c0, c1, c2, c3, xt, xs], .str nm]) (R := fun v H' => ∃ s e, v = .tup [.agg s, .int .i64 e] ∧ Grow H H' ∧ Found ws nm s e) rfl rfl rfl Tryz.func6 rfl b6 (by rw [nt6]; simp) (by
    rw [nt6]
    refine rg_seq (rg_region l6_0 ?_)
    refine og_all (fun g' H' => ∃ i2 i3 i4, g' 2 = .ptr i2 0 ∧ g' 3 = .ptr i3 0 ∧ g' 4 = .ptr i4 0 ∧ H'.get i2 = .row true 30 [.str rn, .int .i64 se, .int .i64 di, .int .i64 mo, .bool ex, c0, c1, c2, c3, xt, xs] ∧ H'.get i3 = .row true 9 [.str nm] ∧ H'.get i4 = .row true 40 zs40 ∧ Grow H H' ∧ H.n ≤ i4) ?_ ?_
    · refine x_box rfl rfl hc.all ?_
      refine x_box rfl rfl rfl ?_
      refine x_alloc al40 ?_
      refine x_assign rfl ?_
      exact og_nil ⟨_, _, _, rfl, rfl, rfl, get_push_row (get_push_row (get_push_new _ _)), get_push_row (get_push_new _ _), get_push_new _ _, (((Grow.push _ _).pushed _).pushed _), by show H.n ≤ H.n + 1 + 1; omega⟩
    rintro g H1 ⟨i2, i3, i4, g2, g3, g4, hh, hn, hz, hgr, hi4⟩
    obtain ⟨v, H2, hcl, hg2, hv⟩ := hidx i3 H1 hn
    refine rg_seq (rg_region l6_1 ?_)
    refine og_all (fun g' H' => H2 = H' ∧ g' 2 = .ptr i2 0 ∧ g' 4 = .ptr i4 0 ∧ g' 6 = .int .i64 v) ?_ ?_
    · refine x_fieldAddr (congrArg some g2) fo30_7 ?_
      refine x_load1 rfl ta28 hh (by rfl) ?_
      refine x_fn (evsC (congrArg some g3) evs0) ?_
      refine x_call (evsC rfl (evsC rfl evs0)) rfl hcl ?_
      refine x_assign rfl ?_
      exact og_nil ⟨rfl, g2, g4, rfl⟩
    rintro g H3 ⟨rfl, g2, g4, g6⟩
    have hgr2 := hgr.trans hg2
    have hi4n : i4 < H2.n := Nat.lt_of_lt_of_le (Heap.get_lt (hz ▸ trivial)) hg2.le
    have hz2 := hg2.row hz
    have hw2 : H2.wf := hgr2.wf hwf
    refine rg_seq (rg_seq (rg_region l6_2 ?_))
    refine og_all (fun g' H' => H2 = H' ∧ g' 2 = .ptr i2 0 ∧ g' 4 = .ptr i4 0 ∧ g' 6 = .int .i64 v ∧ g' 12 = .bool (decide (v < 0))) ?_ ?_
    · refine x_move (congrArg some g6) ?_
      refine x_bin rfl rfl rfl ?_
      exact og_nil ⟨rfl, g2, g4, g6, rfl⟩
    rintro g H3 ⟨rfl, g2, g4, g6, g12⟩
    rcases hv with ⟨i, r, hri, hrn, hfirst, rfl⟩ | ⟨hnone, rfl⟩
    · refine rg_cond (congrArg some g12) (fun h => ?_) (fun _ => rg_skip ?_)
      · have := of_decide_eq_true h; omega
      have hil : i < ws.length := (List.getElem?_eq_some_iff.1 hri).1
      have hrm : r ∈ ws := List.mem_of_getElem? hri
      have hxi : xs = .isl true ws := by
        rcases hxs with ⟨rfl, rfl⟩ | rfl
        · simp at hil
        · rfl
      subst hxi
      have hrl : r.length = 12 := by rw [hwl r hrm, co40]
      refine rg_seq (rg_region l6_4 ?_)
      refine x_fieldAddr (congrArg some g2) fo30_7 ?_
      refine x_load1 rfl ta28 (hg2.row hh) (by rfl) ?_
      refine x_move (congrArg some g6) ?_
      refine x_indexAddrI rfl rfl ix28 hri hrl ?_
      refine x_loadNE rfl ta40 ts40 (r := r) (by rw [List.drop_zero, List.take_of_length_le (by rw [hrl]; exact Nat.le_refl _)]) hrl ?_
      refine x_store (congrArg some g4) rfl ts40 hz2 rfl hrl (hws r hrm).all (by decide) (by omega) ?_
      refine x_assign rfl ?_
      refine og_nil (rg_ret (res_cell2 (x := .agg r) (y := .int .i64 0) (R := fun v => ∃ s e, v = .tup [.agg s, .int .i64 e] ∧ Grow H _ ∧ Found ws nm s e) rs6 ?_ rfl ⟨r, 0, rfl, hgr2.setNew _ hi4 hi4n, .inl ⟨i, hri, hrn, hfirst, rfl⟩⟩))
      show loadA _ _ _ (g 4) = _
      rw [g4]
      refine load_agg ta40 ts40 (cs := r) ((Heap.get_set_same _ hw2 hi4n).trans (by rw [List.take_zero, List.nil_append, List.drop_eq_nil_of_le (by decide), List.append_nil]; rfl)) hrl
    · refine rg_cond (congrArg some g12) (fun _ => ?_) (fun h => ?_)
      · refine rg_seq (rg_region l6_3 ?_)
        refine x_build rfl bu40 ?_
        refine x_store (congrArg some g4) rfl ts40 hz2 rfl rfl rfl (by decide) (by omega) ?_
        refine x_assign rfl ?_
        refine og_nil (rg_ret (res_cell2 (x := .agg zs40) (y := .int .i64 3) (R := fun v => ∃ s e, v = .tup [.agg s, .int .i64 e] ∧ Grow H _ ∧ Found ws nm s e) rs6 ?_ rfl ⟨zs40, 3, rfl, hgr2.setNew _ hi4 hi4n, .inr ⟨hnone, rfl, rfl⟩⟩))
        show loadA _ _ _ (g 4) = _
        rw [g4]
        refine load_agg ta40 ts40 ((Heap.get_set_same _ hw2 hi4n).trans rfl) rfl
      · have := of_decide_eq_false h; omega)
  exact ⟨s, e, H', e1, hg, hf⟩
theorem has17 {x : AV} {ps : List (List AV)} (hx : x = .nils ∧ ps = [] ∨ x = .isl true ps) (hps : ∀ p, p ∈ ps → HasT Tryz.prog 57 p) (hpl : ∀ p, p ∈ ps → p.length = Tryz.prog.cellsOf 57) (hm : ps.length ≤ maxLen) (nm : List UInt8) : Ev fun k => ∀ (id : Nat) (H : Heap), H.get id = .row true 9 [.str nm] → ∃ H', callN Tryz.prog cfgD k 17 [x, .fn 18 [.ptr id 0]] H = some (.ret (.bool (ps.any fun p => rowName p == nm)), H') ∧ Grow H H' := by
  refine (idx30 hx hps hpl hm nm).succ fun k hk id H hid => ?_
  obtain ⟨v, H1, hcl, hg1, hv⟩ := hk id H hid
  obtain ⟨v', H', e1, rfl, hg⟩ := call_in (P := Tryz.prog) (cfg := cfgD) (k := k) (H := H) (f := 17) (args := [x, .fn 18 [.ptr id 0]]) (R := fun v H' => v = .bool (ps.any fun p => rowName p == nm) ∧ Grow H H') rfl rfl rfl Tryz.func17 rfl b17 (by rw [nt17]; simp) (by
    rw [nt17]
    refine rg_seq (rg_region l17_0 ?_)
    refine x_assign rfl ?_
    refine og_nil (rg_seq (rg_region l17_1 ?_))
    refine x_move rfl ?_
    refine x_move rfl ?_
    refine x_call (evsC rfl (evsC rfl evs0)) rfl hcl ?_
    refine x_bin rfl rfl rfl ?_
    refine x_assign rfl ?_
    refine og_nil (rg_ret (res_tmp (R := fun v => v = .bool (ps.any fun p => rowName p == nm) ∧ Grow H _) rs17 rfl ⟨?_, hg1⟩))
    rw [← hv.any]; rfl)
  exact ⟨H', e1, hg⟩
end Go.Proofs.YthmmpnkmjbfimaaGreatDoor

/- The program's Criterion gives what a name means. -/
open Go Go.Ab Go.Proofs
namespace Go.Proofs.YthmmpnkmjbfimaaGreatDoor
set_option linter.unusedVariables false
set_option linter.unusedSectionVars false
variable [HasBase]
theorem Found.cells {ws : List (List AV)} {nm : List UInt8} {s : List AV} {e : Int} (h : Found ws nm s e) (hws : ∀ r, r ∈ ws → HasT Tryz.prog 40 r) (hwl : ∀ r, r ∈ ws → r.length = Tryz.prog.cellsOf 40) : s.length = 12 ∧ s.all AV.isCell = true := by
  rcases h with ⟨i, h1, _⟩ | ⟨_, rfl, _⟩
  · have hm := List.mem_of_getElem? h1
    exact ⟨by rw [hwl _ hm, co40], (hws _ hm).all⟩
  · exact ⟨rfl, rfl⟩
theorem Found.ok {ws : List (List AV)} {nm : List UInt8} {s : List AV} {e : Int} (h : Found ws nm s e) : (e == 0) = segHas ws nm := by
  rcases h with ⟨i, h1, h2, _, rfl⟩ | ⟨h1, _, rfl⟩
  · have : segHas ws nm = true := any_of_get h1 h2
    rw [this]; rfl
  · have : segHas ws nm = false := by
      unfold segHas
      rw [List.any_eq_false]
      intro r hr
      simp [h1 r hr]
    rw [this]; rfl
theorem crit7 {c : List AV} (hc : HasT Tryz.prog 30 c) {nm : List UInt8} (hnl : nm.length ≤ maxLen) : Ev fun k => ∀ H : Heap, callN Tryz.prog cfgD k 7 [.agg c, .str nm] H = some (.ret (.int .i64 (critOf (segRows c) nm)), H) := by
  have hfind := find6 hc hnl
  obtain ⟨a0, r0, rfl, h0, a1, r1, rfl, h1, a2, r2, rfl, h2, a3, r3, rfl, h3, a4, r4, rfl, h4, a5, r5, rfl, h5, a6, r6, rfl, h6, a7, r7, rfl, h7, rfl⟩ := hc.fields un30 ft30
  obtain ⟨rn, rfl, -⟩ := h0.str_inv un9
  obtain ⟨se, rfl, -⟩ := h1.int_inv un3
  obtain ⟨di, rfl, -⟩ := h2.int_inv un3
  obtain ⟨mo, rfl, -⟩ := h3.int_inv un3
  obtain ⟨ex, rfl⟩ := h4.bool_inv un4
  obtain ⟨xt, wt, rfl, st, -⟩ := h6.sl_inv un23
  obtain ⟨xs, ws, rfl, ss, hxs, hws, hwl, hmax⟩ := h7.sl_inv un28
  obtain ⟨a0, r0, rfl, h0, a1, r1, rfl, h1, a2, r2, rfl, h2, a3, r3, rfl, h3, rfl⟩ := h5.fields un27 ft27
  obtain ⟨c0, w0, rfl, s0, -⟩ := h0.sl_inv un22
  obtain ⟨c1, w1, rfl, s1, -⟩ := h1.sl_inv un23
  obtain ⟨c2, w2, rfl, s2, -⟩ := h2.sl_inv un24
  obtain ⟨c3, w3, rfl, s3, -⟩ := h3.sl_inv un25
  simp only [List.append_nil, List.cons_append, List.nil_append] at hc hfind ⊢
  clear h0 h1 h2 h3 h4 h5 h6 h7
  have hsr : segRows [.str rn, .int .i64 se, .int .i64 di, .int .i64 mo, .bool ex, c0, c1, c2, c3, xt, xs] = ws := by cases ss <;> rfl
  rw [hsr] at hfind ⊢
  have hpan : Ev fun k => ∀ r, r ∈ ws → ∀ (id : Nat) (H : Heap) (x : AV), r[6]? = some x → H.get id = .row true 9 [.str nm] → ∃ H', callN Tryz.prog cfgD k 17 [x, .fn 18 [.ptr id 0]] H = some (.ret (.bool ((panRows r).any fun p => rowName p == nm)), H') ∧ Grow H H' := Ev.all fun r hm => by
    obtain ⟨x, h1, h2, h3, h4, h5⟩ := pan_row (hws r hm)
    refine (has17 h2 h3 h4 h5 nm).mono fun k hk id H x' hx' hid => ?_
    rw [h1] at hx'
    cases hx'
    exact hk id H hid
  refine ((hfind.and hpan).and (Ev.ge (ws.length + 1))).succ fun k hk H => ?_
  obtain ⟨⟨hfind, hpan⟩, hge⟩ := hk
  obtain ⟨v, e1, rfl⟩ := call_pure (P := Tryz.prog) (cfg := cfgD) (k := k) (H := H) (f := 7) (args := [.agg [.str rn, .int .i64 se, .int .i64 di, .int .i64 mo, .bool ex, c0, c1, c2, c3, xt, xs], .str nm]) (R := fun v => v = .int .i64 (critOf ws nm)) rfl rfl rfl Tryz.func7 rfl b7 (by rw [nt7]; simp) (frz2 (hc.aggA (by simp)) (flat_str _).A) (by
    rw [nt7]
    refine rg_seq (rg_region l7_0 ?_)
    refine og_all (fun g' H' => g' 2 = .ptr 0 0 ∧ g' 3 = .ptr 1 0 ∧ H'.get 0 = .row true 30 [.str rn, .int .i64 se, .int .i64 di, .int .i64 mo, .bool ex, c0, c1, c2, c3, xt, xs] ∧ H'.get 1 = .row true 9 [.str nm] ∧ H'.wf) ?_ ?_
    · refine x_box rfl rfl hc.all ?_
      refine x_box rfl rfl rfl ?_
      refine x_assign rfl ?_
      exact og_nil ⟨rfl, rfl, get_push_row (get_push_new _ _), get_push_new _ _, Heap.wf_push _ (Heap.wf_push _ wf_empty)⟩
    rintro g H0 ⟨g2, g3, hh, hn, hw⟩
    obtain ⟨s, e, H1, hcf, hg1, hfd⟩ := hfind H0 hw
    obtain ⟨hsl, hsc⟩ := hfd.cells hws hwl
    refine rg_seq (rg_seq (rg_region l7_1 ?_))
    refine og_all (fun g' H' => g' 2 = .ptr 0 0 ∧ g' 3 = .ptr 1 0 ∧ g' 6 = .int .i64 e ∧ Grow H0 H') ?_ ?_
    · refine x_loadN (congrArg some g2) ta30 ts30 hh rfl rfl ?_
      refine x_load1 (congrArg some g3) ta9 hn (by rfl) ?_
      refine x_call (evsC rfl (evsC rfl evs0)) rfl hcf ?_
      refine x_move rfl ?_
      refine x_extract rfl rfl ?_
      refine x_extract rfl rfl ?_
      refine x_alloc al40 ?_
      refine x_store rfl rfl ts40 (get_push_new _ _) rfl hsl hsc (by decide) (by omega) ?_
      refine x_assign rfl ?_
      exact og_nil ⟨g2, g3, rfl, (hg1.pushed _).setNew _ hg1.le (Nat.lt_succ_self _)⟩
    rintro g H2 ⟨g2, g3, g6, hg2⟩
    refine rg_seq (rg_region l7_2 ?_)
    refine og_all (fun g' H' => H2 = H' ∧ g' 2 = .ptr 0 0 ∧ g' 3 = .ptr 1 0 ∧ g' 16 = .bool (e == 0)) ?_ ?_
    · refine x_move (congrArg some g6) ?_
      refine x_bin rfl rfl rfl ?_
      exact og_nil ⟨rfl, g2, g3, rfl⟩
    rintro g H3 ⟨rfl, g2, g3, g16⟩
    rw [hfd.ok] at g16
    refine rg_cond (congrArg some g16) (fun hb => ?_) (fun hseg => rg_skip ?_)
    · refine rg_seq (rg_region l7_3 ?_)
      refine x_assign rfl ?_
      refine og_nil (rg_ret (res_tmpF rs7 rfl (frz_int _ _ _ _) ?_))
      unfold critOf
      rw [hb]; rfl
    refine rg_seq (rg_seq (rg_region l7_4 ?_))
    refine og_all (fun g' H' => H2 = H' ∧ g' 3 = .ptr 1 0 ∧ g' 18 = xs ∧ g' 19 = .int .i64 ws.length ∧ g' 20 = .int .i64 (0 : Nat)) ?_ ?_
    · refine x_fieldAddr (congrArg some g2) fo30_7 ?_
      refine x_load1 rfl ta28 (hg2.row hh) (by rfl) ?_
      refine x_len (evsC rfl evs0) rfl rfl (len_sl un28 ss) ?_
      refine x_move rfl ?_
      exact og_nil ⟨rfl, g3, rfl, rfl, rfl⟩
    rintro g H3 ⟨rfl, g3, g18, g19, g20⟩
    refine rg_block (rg_loop (fun z g H => ∃ i : Nat, g 3 = .ptr 1 0 ∧ Grow H0 H ∧ g 18 = xs ∧ g 19 = .int .i64 ws.length ∧ g 20 = .int .i64 i ∧ i ≤ ws.length ∧ z = ws.length - i ∧ ∀ (j : Nat) (r : List AV), j < i → ws[j]? = some r → ((panRows r).any fun p => rowName p == nm) = false) (m := ws.length) (by omega) ⟨0, g3, hg2, g18, g19, g20, Nat.zero_le _, rfl, fun j r h => absurd h (by omega)⟩ ?_)
    rintro z g H ⟨i, g3, hg, g18, g19, g20, hi, rfl, hlt⟩
    refine rg_seq (rg_region l7_5 ?_)
    refine og_all (fun g' H' => H = H' ∧ g' 3 = .ptr 1 0 ∧ g' 18 = xs ∧ g' 19 = .int .i64 ws.length ∧ g' 20 = .int .i64 i ∧ g' 21 = .bool (decide ((i : Int) < (ws.length : Int)))) ?_ ?_
    · refine x_bin (congrArg some g20) (congrArg some g19) rfl ?_
      exact og_nil ⟨rfl, g3, g18, g19, g20, rfl⟩
    rintro g H' ⟨rfl, g3, g18, g19, g20, g21⟩
    refine rg_seq (rg_cond (congrArg some g21) (fun hcd => rg_skip ?_) (fun hif => rg_exit ?_))
    · have hil : i < ws.length := by have := of_decide_eq_true hcd; omega
      obtain ⟨r, hri⟩ : ∃ r, ws[i]? = some r := ⟨ws[i], List.getElem?_eq_getElem hil⟩
      have hrm : r ∈ ws := List.mem_of_getElem? hri
      have hxi : xs = .isl true ws := by
        rcases hxs with ⟨rfl, rfl⟩ | rfl
        · simp at hil
        · rfl
      subst hxi
      have hrl : r.length = 12 := by rw [hwl r hrm, co40]
      obtain ⟨x6, hx6, -⟩ := pan_row (hws r hrm)
      refine rg_seq (rg_block (rg_seq (rg_region l7_6 ?_)))
      refine og_all (fun g' H' => (∃ id, g' 8 = .ptr id 0 ∧ H'.get id = .row true 40 r) ∧ Grow H0 H' ∧ g' 3 = .ptr 1 0 ∧ g' 18 = .isl true ws ∧ g' 19 = .int .i64 ws.length ∧ g' 20 = .int .i64 i) ?_ ?_
      · refine x_indexAddrI (congrArg some g18) (congrArg some g20) ix28 hri hrl ?_
        refine x_loadNE rfl ta40 ts40 (r := r) (by rw [List.drop_zero, List.take_of_length_le (by rw [hrl]; exact Nat.le_refl _)]) hrl ?_
        refine x_alloc al40 ?_
        refine x_store rfl rfl ts40 (get_push_new _ _) rfl hrl (hws r hrm).all (by decide) (by omega) ?_
        refine og_nil ⟨⟨_, rfl, ?_⟩, (hg.pushed _).setNew _ hg.le (Nat.lt_succ_self _), g3, g18, g19, g20⟩
        rw [set_push_new, get_push_new, List.take_zero, List.nil_append, List.drop_eq_nil_of_le (by decide), List.append_nil]
        rfl
      rintro g H3 ⟨⟨id, g8, hid⟩, hg3, g3, g18, g19, g20⟩
      obtain ⟨H4, hcl, hg4⟩ := hpan r hrm 1 H3 x6 hx6 (hg3.row hn)
      refine rg_seq (rg_region l7_7 ?_)
      refine og_all (fun g' H' => H4 = H' ∧ g' 3 = .ptr 1 0 ∧ g' 18 = .isl true ws ∧ g' 19 = .int .i64 ws.length ∧ g' 20 = .int .i64 i ∧ g' 27 = .bool ((panRows r).any fun p => rowName p == nm)) ?_ ?_
      · refine x_fieldAddr (congrArg some g8) fo40_6 ?_
        refine x_load1 rfl ta35 hid hx6 ?_
        refine x_fn (evsC (congrArg some g3) evs0) ?_
        refine x_call (evsC rfl (evsC rfl evs0)) rfl hcl ?_
        exact og_nil ⟨rfl, g3, g18, g19, g20, rfl⟩
      rintro g H5 ⟨rfl, g3, g18, g19, g20, g27⟩
      refine rg_cond (congrArg some g27) (fun hb => ?_) (fun hb => rg_skip ?_)
      · refine rg_seq (rg_region l7_8 ?_)
        refine x_assign rfl ?_
        refine og_nil (rg_ret (res_tmpF rs7 rfl (frz_int _ _ _ _) ?_))
        have : panHas ws nm = true := any_of_get hri hb
        unfold critOf
        rw [hseg, this]; rfl
      refine rg_region l7_9 ?_
      refine x_inc (congrArg some g20) (by omega) ?_
      refine x_move rfl ?_
      refine og_nil ⟨ws.length - (i + 1), by omega, i + 1, g3, hg3.trans hg4, g18, g19, rfl, by omega, rfl, fun j r' hj hr' => ?_⟩
      by_cases hji : j = i
      · subst hji
        rw [hri] at hr'
        cases hr'
        exact hb
      · exact hlt j r' (by omega) hr'
    show RG _ _ _ _ _ _ _ _
    have hge1 : ¬ ((i : Int) < (ws.length : Int)) := of_decide_eq_false hif
    have hnp : panHas ws nm = false := any_none fun j r hj hr => hlt j r (by omega) hr
    have hcr : critOf ws nm = critTail nm := by unfold critOf; rw [hseg, hnp]; rfl
    rw [hcr]
    refine rg_seq (rg_seq (rg_region l7_10 ?_))
    refine x_load1 (congrArg some g3) ta9 (hg.row hn) (by rfl) ?_
    refine og_nil (rg_block (rg_seq (rg_region l7_11 ?_)))
    refine og_all (fun g' H' => g' 29 = .str nm ∧ g' 30 = .bool (nm == difficultyB)) ?_ ?_
    · refine x_bin rfl rfl rfl ?_
      refine x_assign rfl ?_
      exact og_nil ⟨rfl, rfl⟩
    rintro g H ⟨g29, g30⟩
    refine rg_cond (congrArg some g30) (fun hb => ?_) (fun hb1 => ?_)
    · refine rg_seq (rg_region l7_12 ?_)
      refine x_assign rfl ?_
      refine og_nil (rg_ret (res_tmpF rs7 rfl (frz_int _ _ _ _) ?_))
      unfold critTail; rw [hb]; rfl
    refine rg_seq (rg_region l7_13 ?_)
    refine og_all (fun g' H' => g' 29 = .str nm ∧ g' 32 = .bool (nm == penaltiesB)) ?_ ?_
    · refine x_bin (congrArg some g29) rfl rfl ?_
      refine x_assign rfl ?_
      exact og_nil ⟨g29, rfl⟩
    rintro g H ⟨g29, g32⟩
    refine rg_cond (congrArg some g32) (fun hb => ?_) (fun hb2 => ?_)
    · refine rg_seq (rg_region l7_14 ?_)
      refine x_assign rfl ?_
      refine og_nil (rg_ret (res_tmpF rs7 rfl (frz_int _ _ _ _) ?_))
      unfold critTail; rw [hb1, hb]; rfl
    refine rg_seq (rg_region l7_15 ?_)
    refine og_all (fun g' H' => g' 34 = .bool (nm == bestB)) ?_ ?_
    · refine x_bin (congrArg some g29) rfl rfl ?_
      refine x_assign rfl ?_
      exact og_nil rfl
    rintro g H g34
    refine rg_cond (congrArg some g34) (fun hb => ?_) (fun hb3 => rg_skip ?_)
    · refine rg_seq (rg_region l7_16 ?_)
      refine x_assign rfl ?_
      refine og_nil (rg_ret (res_tmpF rs7 rfl (frz_int _ _ _ _) ?_))
      unfold critTail; rw [hb1, hb2, hb]; rfl
    refine rg_seq (rg_region l7_17 ?_)
    refine x_assign rfl ?_
    refine og_nil (rg_ret (res_tmpF rs7 rfl (frz_int _ _ _ _) ?_))
    unfold critTail; rw [hb1, hb2, hb3]; rfl)
  exact e1
end Go.Proofs.YthmmpnkmjbfimaaGreatDoor

/- The law, run by the abstract machine: true. -/
open Go Go.Ab Go.Proofs
namespace Go.Proofs.YthmmpnkmjbfimaaGreatDoor
set_option linter.unusedVariables false
set_option linter.unusedSectionVars false
variable [HasBase]
theorem awake4 (k : Nat) (H : Heap) : callN Tryz.prog cfgD (k + 1) 4 [] H = some (.ret (.bool true), H) := by
  have h : cfgD.sum 4 [] H = some (.ret (.bool true), H) := rfl
  simp only [callN, h]
theorem crit_one (ws : List (List AV)) (nm : List UInt8) : (critOf ws nm == 1) = segHas ws nm := by
  unfold critOf
  cases segHas ws nm with
  | true => rfl
  | false =>
    cases panHas ws nm with
    | true => rfl
    | false =>
      show (critTail nm == 1) = false
      unfold critTail
      cases (nm == difficultyB) <;> cases (nm == penaltiesB) <;> cases (nm == bestB) <;> rfl
theorem boolNeq {x y : Operand} {a b : Bool} (h : a = b) : binA Tryz.prog .neq 4 x y (.bool a) (.bool b) = some (.bool false) := by
  subst h
  simp [binA]
theorem law3 {c : List AV} (hc : HasT Tryz.prog 30 c) {nm : List UInt8} (hnl : nm.length ≤ maxLen) : Ev fun k => ∃ H', callN Tryz.prog cfgD k 3 [.agg c, .str nm] Heap.empty = some (.ret (.bool true), H') := by
  have hsmall := small16 hc
  have hfind := find6 hc hnl
  have hcrit := crit7 hc hnl
  have href : Ev fun k => (∀ r, r ∈ segRows c → (panRows r).length ≤ 10) → ∀ H : Heap, callN Tryz.prog cfgD k 8 [.agg c, .str nm] H = some (.ret (.int .i64 (critOf (segRows c) nm)), H) := by
    by_cases h : ∀ r, r ∈ segRows c → (panRows r).length ≤ 10
    · exact (crit8 hc nm h).mono fun k hk _ => hk
    · exact Ev.of fun k h' => absurd h' h
  obtain ⟨a0, r0, rfl, h0, a1, r1, rfl, h1, a2, r2, rfl, h2, a3, r3, rfl, h3, a4, r4, rfl, h4, a5, r5, rfl, h5, a6, r6, rfl, h6, a7, r7, rfl, h7, rfl⟩ := hc.fields un30 ft30
  obtain ⟨rn, rfl, -⟩ := h0.str_inv un9
  obtain ⟨se, rfl, -⟩ := h1.int_inv un3
  obtain ⟨di, rfl, -⟩ := h2.int_inv un3
  obtain ⟨mo, rfl, -⟩ := h3.int_inv un3
  obtain ⟨ex, rfl⟩ := h4.bool_inv un4
  obtain ⟨xt, wt, rfl, st, -⟩ := h6.sl_inv un23
  obtain ⟨xs, ws, rfl, ss, hxs, hws, hwl, hmax⟩ := h7.sl_inv un28
  obtain ⟨a0, r0, rfl, h0, a1, r1, rfl, h1, a2, r2, rfl, h2, a3, r3, rfl, h3, rfl⟩ := h5.fields un27 ft27
  obtain ⟨c0, w0, rfl, s0, -⟩ := h0.sl_inv un22
  obtain ⟨c1, w1, rfl, s1, -⟩ := h1.sl_inv un23
  obtain ⟨c2, w2, rfl, s2, -⟩ := h2.sl_inv un24
  obtain ⟨c3, w3, rfl, s3, -⟩ := h3.sl_inv un25
  simp only [List.append_nil, List.cons_append, List.nil_append] at hc hsmall hfind hcrit href ⊢
  clear h0 h1 h2 h3 h4 h5 h6 h7
  have hsr : segRows [.str rn, .int .i64 se, .int .i64 di, .int .i64 mo, .bool ex, c0, c1, c2, c3, xt, xs] = ws := by cases ss <;> rfl
  rw [hsr] at hsmall hfind hcrit href
  have hsame : Ev fun k => ∀ r, r ∈ ws → ∀ H : Heap, callN Tryz.prog cfgD k 9 [.agg r, .agg r] H = some (.ret (.bool true), H) := Ev.all fun r hm => same15 (hws r hm)
  refine ((hsmall.and (hfind.and (hcrit.and (href.and hsame)))).and (Ev.ge (ws.length + 1))).succ fun k hk => ?_
  obtain ⟨⟨hsmall, hfind, hcrit, href, hsame⟩, hge⟩ := hk
  obtain ⟨k, rfl⟩ : ∃ m, k = m + 1 := ⟨k - 1, by omega⟩
  obtain ⟨v, H', e1, rfl⟩ := call_in (P := Tryz.prog) (cfg := cfgD) (k := k + 1) (H := Heap.empty) (f := 3) (args := [.agg [.str rn, .int .i64 se, .int .i64 di, .int .i64 mo, .bool ex, c0, c1, c2, c3, xt, xs], .str nm]) (R := fun v H' => v = .bool true) rfl rfl rfl Tryz.func3 rfl b3 (by rw [nt3]; simp) (by
    rw [nt3]
    refine rg_seq (rg_region l3_0 ?_)
    refine og_all (fun g' H' => g' 2 = .ptr 0 0 ∧ g' 1 = .str nm ∧ H'.get 0 = .row true 30 [.str rn, .int .i64 se, .int .i64 di, .int .i64 mo, .bool ex, c0, c1, c2, c3, xt, xs] ∧ H'.wf) ?_ ?_
    · refine x_box rfl rfl hc.all ?_
      refine x_assign rfl ?_
      exact og_nil ⟨rfl, rfl, get_push_new _ _, Heap.wf_push _ wf_empty⟩
    rintro g H0 ⟨g2, g1, hh, hw⟩
    refine rg_seq (rg_seq (rg_region l3_1 ?_))
    refine og_all (fun g' H' => H0 = H' ∧ g' 2 = .ptr 0 0 ∧ g' 1 = .str nm ∧ g' 10 = .bool false) ?_ ?_
    · refine x_call evs0 rfl (awake4 k H0) ?_
      refine x_un rfl rfl ?_
      exact og_nil ⟨rfl, g2, g1, rfl⟩
    rintro g H ⟨rfl, g2, g1, g10⟩
    refine rg_cond (congrArg some g10) (fun h => by cases h) (fun _ => rg_skip ?_)
    obtain ⟨bs, hbs, hten⟩ := hsmall H0
    refine rg_seq (rg_seq (rg_region l3_3 ?_))
    refine og_all (fun g' H' => H0 = H' ∧ g' 2 = .ptr 0 0 ∧ g' 1 = .str nm ∧ g' 13 = .bool (!bs)) ?_ ?_
    · refine x_loadN (congrArg some g2) ta30 ts30 hh rfl rfl ?_
      refine x_call (evsC rfl evs0) rfl hbs ?_
      refine x_un rfl rfl ?_
      exact og_nil ⟨rfl, g2, g1, rfl⟩
    rintro g H ⟨rfl, g2, g1, g13⟩
    refine rg_cond (congrArg some g13) (fun h => ?_) (fun hb => rg_skip ?_)
    · refine rg_seq (rg_region l3_4 ?_)
      refine x_assign rfl ?_
      exact og_nil (rg_ret (res_tmp (R := fun v => v = .bool true) rs3 rfl rfl))
    have hten := hten (by simpa using hb)
    have href := href hten
    obtain ⟨s, e, H1, hcf, hg1, hfd⟩ := hfind H0 hw
    obtain ⟨hsl, hsc⟩ := hfd.cells hws hwl
    refine rg_seq (rg_region l3_5 ?_)
    refine og_all (fun g' H' => (∃ i5, g' 5 = .ptr i5 0 ∧ H'.get i5 = .row true 40 s) ∧ g' 2 = .ptr 0 0 ∧ g' 1 = .str nm ∧ g' 6 = .int .i64 e ∧ H'.get 0 = .row true 30 [.str rn, .int .i64 se, .int .i64 di, .int .i64 mo, .bool ex, c0, c1, c2, c3, xt, xs]) ?_ ?_
    · refine x_loadN (congrArg some g2) ta30 ts30 hh rfl rfl ?_
      refine x_move (congrArg some g1) ?_
      refine x_call (evsC rfl (evsC rfl evs0)) rfl hcf ?_
      refine x_move rfl ?_
      refine x_extract rfl rfl ?_
      refine x_extract rfl rfl ?_
      refine x_alloc al40 ?_
      refine x_store rfl rfl ts40 (get_push_new _ _) rfl hsl hsc (by decide) (by omega) ?_
      refine x_assign rfl ?_
      refine og_nil ⟨⟨_, rfl, ?_⟩, g2, g1, rfl, ((hg1.pushed _).setNew _ hg1.le (Nat.lt_succ_self _)).row hh⟩
      rw [set_push_new, get_push_new]
      exact congrArg (Ob.row true 40) (List.append_nil s)
    rintro g H2 ⟨⟨i5, g5, h5⟩, g2, g1, g6, hh⟩
    refine rg_seq (rg_region l3_6 ?_)
    refine og_all (fun g' H' => H2 = H' ∧ g' 5 = .ptr i5 0 ∧ g' 2 = .ptr 0 0 ∧ g' 1 = .str nm ∧ g' 6 = .int .i64 e ∧ g' 7 = .int .i64 (critOf ws nm)) ?_ ?_
    · refine x_loadN (congrArg some g2) ta30 ts30 hh rfl rfl ?_
      refine x_move (congrArg some g1) ?_
      refine x_call (evsC rfl (evsC rfl evs0)) rfl (hcrit H2) ?_
      refine x_assign rfl ?_
      exact og_nil ⟨rfl, g5, g2, g1, g6, rfl⟩
    rintro g H ⟨rfl, g5, g2, g1, g6, g7⟩
    refine rg_seq (rg_seq (rg_region l3_7 ?_))
    refine og_all (fun g' H' => H2 = H' ∧ g' 5 = .ptr i5 0 ∧ g' 2 = .ptr 0 0 ∧ g' 1 = .str nm ∧ g' 6 = .int .i64 e ∧ g' 34 = .bool false) ?_ ?_
    · refine x_move (congrArg some g7) ?_
      refine x_loadN (congrArg some g2) ta30 ts30 hh rfl rfl ?_
      refine x_move (congrArg some g1) ?_
      refine x_call (evsC rfl (evsC rfl evs0)) rfl (href H2) ?_
      refine x_bin rfl rfl neqI ?_
      refine x_move rfl ?_
      refine og_want rfl ?_
      refine x_move (congrArg some g6) ?_
      refine og_want rfl ?_
      refine x_bin (v := .bool (e == 0)) rfl rfl rfl ?_
      refine og_want rfl ?_
      refine x_move (congrArg some g7) ?_
      refine og_want rfl ?_
      refine x_bin (v := .bool (critOf ws nm == 1)) rfl rfl rfl ?_
      refine og_want rfl ?_
      refine x_bin rfl rfl (boolNeq (by rw [hfd.ok, crit_one])) ?_
      refine x_pickF rfl rfl ?_
      exact og_nil ⟨rfl, g5, g2, g1, g6, rfl⟩
    rintro g H ⟨rfl, g5, g2, g1, g6, g34⟩
    refine rg_cond (congrArg some g34) (fun h => by cases h) (fun _ => rg_skip ?_)
    refine rg_seq (rg_seq (rg_region l3_9 ?_))
    refine og_all (fun g' H' => H2 = H' ∧ g' 5 = .ptr i5 0 ∧ g' 2 = .ptr 0 0 ∧ g' 1 = .str nm ∧ g' 6 = .int .i64 e ∧ g' 36 = .bool (e != 0)) ?_ ?_
    · refine x_move (congrArg some g6) ?_
      refine x_bin rfl rfl rfl ?_
      exact og_nil ⟨rfl, g5, g2, g1, g6, rfl⟩
    rintro g H ⟨rfl, g5, g2, g1, g6, g36⟩
    rcases hfd with ⟨i0, hi0, hn0, hfirst, rfl⟩ | ⟨hnone, -, rfl⟩
    rotate_left
    · refine rg_cond (congrArg some g36) (fun _ => ?_) (fun h => by cases h)
      refine rg_seq (rg_region l3_10 ?_)
      refine x_move (congrArg some g6) ?_
      refine x_bin rfl rfl rfl ?_
      refine x_assign rfl ?_
      exact og_nil (rg_ret (res_tmp (R := fun v => v = .bool true) rs3 rfl rfl))
    refine rg_cond (congrArg some g36) (fun h => by cases h) (fun _ => rg_skip ?_)
    have hil0 : i0 < ws.length := (List.getElem?_eq_some_iff.1 hi0).1
    refine rg_seq (rg_seq (rg_region l3_11 ?_))
    refine x_assign rfl ?_
    refine og_nil ?_
    refine rg_block (rg_loop (fun z g H => ∃ i : Nat, H2 = H ∧ g 5 = .ptr i5 0 ∧ g 2 = .ptr 0 0 ∧ g 1 = .str nm ∧ g 8 = .int .i64 i ∧ i ≤ i0 ∧ z = ws.length - i) (m := ws.length) (by omega) ⟨0, rfl, g5, g2, g1, rfl, Nat.zero_le _, rfl⟩ ?_)
    rintro z g H ⟨i, rfl, g5, g2, g1, g8, hi, rfl⟩
    have hil : i < ws.length := by omega
    obtain ⟨r, hri⟩ : ∃ r, ws[i]? = some r := ⟨ws[i], List.getElem?_eq_getElem hil⟩
    have hrm : r ∈ ws := List.mem_of_getElem? hri
    have hxi : xs = .isl true ws := by
      rcases hxs with ⟨rfl, rfl⟩ | rfl
      · simp at hil
      · rfl
    subst hxi
    have hrl : r.length = 12 := by rw [hwl r hrm, co40]
    obtain ⟨sn, rest, hrs, hrn⟩ := name_row (hws r hrm) un40 ft40
    refine rg_seq (rg_seq (rg_region l3_12 ?_))
    refine og_all (fun g' H' => H2 = H' ∧ g' 5 = .ptr i5 0 ∧ g' 2 = .ptr 0 0 ∧ g' 1 = .str nm ∧ g' 8 = .int .i64 i ∧ g' 43 = .bool (decide ((i : Int) < (ws.length : Int)))) ?_ ?_
    · refine x_move (congrArg some g8) ?_
      refine x_fieldAddr (congrArg some g2) fo30_7 ?_
      refine x_load1 rfl ta28 hh (by rfl) ?_
      refine x_len (evsC rfl evs0) rfl rfl (len_sl un28 (by assumption)) ?_
      refine x_bin rfl rfl rfl ?_
      exact og_nil ⟨rfl, g5, g2, g1, g8, rfl⟩
    rintro g H ⟨rfl, g5, g2, g1, g8, g43⟩
    refine rg_cond (congrArg some g43) (fun _ => rg_skip ?_) (fun h => by have := of_decide_eq_false h; omega)
    refine rg_seq (rg_block (rg_seq (rg_region l3_13 ?_)))
    refine og_all (fun g' H' => H2 = H' ∧ g' 5 = .ptr i5 0 ∧ g' 2 = .ptr 0 0 ∧ g' 1 = .str nm ∧ g' 8 = .int .i64 i ∧ g' 53 = .bool (sn == nm)) ?_ ?_
    · refine x_fieldAddr (congrArg some g2) fo30_7 ?_
      refine x_load1 rfl ta28 hh (by rfl) ?_
      refine x_move (congrArg some g8) ?_
      refine x_indexAddrI rfl rfl ix28 hri hrl ?_
      refine x_fieldAddrE rfl fo40_0 ?_
      refine x_load1E (v := .str sn) rfl ta9 (by rw [hrs]; rfl) ?_
      refine x_move (congrArg some g1) ?_
      refine x_bin rfl rfl rfl ?_
      exact og_nil ⟨rfl, g5, g2, g1, g8, rfl⟩
    rintro g H ⟨rfl, g5, g2, g1, g8, g53⟩
    refine rg_cond (congrArg some g53) (fun hb => ?_) (fun hb => rg_skip ?_)
    · have hie : i = i0 := by
        by_cases hlt : i < i0
        · have := hfirst i r hlt hri
          rw [hrn, hb] at this
          cases this
        · omega
      subst hie
      have hsr2 : s = r := Option.some.inj (hi0.symm.trans hri)
      rw [hsr2] at h5
      refine rg_seq (rg_draw n3_14 l3_14 ?_)
      refine x_fieldAddr (congrArg some g2) fo30_7 ?_
      refine x_load1 rfl ta28 hh (by rfl) ?_
      refine x_move (congrArg some g8) ?_
      refine x_indexAddrI rfl rfl ix28 hri hrl ?_
      refine x_loadNE rfl ta40 ts40 (r := r) (by rw [List.drop_zero, List.take_of_length_le (by rw [hrl]; exact Nat.le_refl _)]) hrl ?_
      refine x_loadN (r := r) (congrArg some g5) ta40 ts40 h5 (by rw [List.drop_zero, List.take_of_length_le (by rw [hrl]; exact Nat.le_refl _)]) hrl ?_
      refine x_call (evsC rfl (evsC rfl evs0)) rfl (hsame r hrm H2) ?_
      refine x_assign rfl ?_
      exact og_nil (rg_ret (res_tmp (R := fun v => v = .bool true) rs3 rfl rfl))
    have hlt : i < i0 := by
      by_cases hie : i = i0
      · subst hie
        rw [hri] at hi0
        cases hi0
        rw [hrn, hb] at hn0
        cases hn0
      · omega
    refine rg_region l3_15 ?_
    refine x_move (congrArg some g8) ?_
    refine x_inc rfl (by omega) ?_
    refine x_assign rfl ?_
    exact og_nil ⟨ws.length - (i + 1), by omega, i + 1, rfl, g5, g2, g1, rfl, by omega, rfl⟩)
  exact ⟨H', e1⟩
end Go.Proofs.YthmmpnkmjbfimaaGreatDoor
