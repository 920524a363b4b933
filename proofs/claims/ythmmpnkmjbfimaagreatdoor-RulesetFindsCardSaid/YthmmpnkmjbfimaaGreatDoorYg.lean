/- The law's own functions: the configuration; facts of its types. -/
import Derived.Test.YthmmpnkmjbfimaaGreatDoorYf
import Derived.Test.YthmmpnkmjbfimaaGreatDoorSa
set_option linter.unusedVariables false
set_option linter.unusedSimpArgs false
set_option linter.unusedSectionVars false
set_option linter.unnecessarySimpa false
open Go Go.Ab Go.Proofs
namespace Go.Proofs.YthmmpnkmjbfimaaGreatDoor
set_option linter.unusedVariables false
noncomputable section
def pureD (f : Nat) : Bool := F.nth (fun b => b) false [false, false, false, false, false, true, false, true, true, true, false, false, false, true, true, false, false, false, false, true, true, true, false, false, false, false, false, false, false, true, false, false, false, false, false, false, false, false, false, false, false, false, false, false, false, false, false, false, false, true] f
def sumD : CallFn := fun f => selA (Nat.beq f 4) (tabS isNil (.bool true)) (sumC f)
def cfgD : Cfg := { ok := fun _ => true, pure := pureD, dfr := fun f => Nat.beq f 261, sum := sumD }
theorem ta2 : tagg Tryz.prog 2 = some false := by kernel_rfl
theorem ts2 : tsz Tryz.prog 2 = some 1 := by kernel_rfl
theorem ta3 : tagg Tryz.prog 3 = some false := by kernel_rfl
theorem ts3 : tsz Tryz.prog 3 = some 1 := by kernel_rfl
theorem ta4 : tagg Tryz.prog 4 = some false := by kernel_rfl
theorem ts4 : tsz Tryz.prog 4 = some 1 := by kernel_rfl
theorem ta9 : tagg Tryz.prog 9 = some false := by kernel_rfl
theorem ts9 : tsz Tryz.prog 9 = some 1 := by kernel_rfl
theorem ta22 : tagg Tryz.prog 22 = some false := by kernel_rfl
theorem ts22 : tsz Tryz.prog 22 = some 1 := by kernel_rfl
theorem ta23 : tagg Tryz.prog 23 = some false := by kernel_rfl
theorem ts23 : tsz Tryz.prog 23 = some 1 := by kernel_rfl
theorem ta24 : tagg Tryz.prog 24 = some false := by kernel_rfl
theorem ts24 : tsz Tryz.prog 24 = some 1 := by kernel_rfl
theorem ta25 : tagg Tryz.prog 25 = some false := by kernel_rfl
theorem ts25 : tsz Tryz.prog 25 = some 1 := by kernel_rfl
theorem ta27 : tagg Tryz.prog 27 = some true := by kernel_rfl
theorem ts27 : tsz Tryz.prog 27 = some 4 := by kernel_rfl
theorem ta28 : tagg Tryz.prog 28 = some false := by kernel_rfl
theorem ts28 : tsz Tryz.prog 28 = some 1 := by kernel_rfl
theorem ta30 : tagg Tryz.prog 30 = some true := by kernel_rfl
theorem ts30 : tsz Tryz.prog 30 = some 11 := by kernel_rfl
theorem ta33 : tagg Tryz.prog 33 = some false := by kernel_rfl
theorem ts33 : tsz Tryz.prog 33 = some 1 := by kernel_rfl
theorem ta34 : tagg Tryz.prog 34 = some false := by kernel_rfl
theorem ts34 : tsz Tryz.prog 34 = some 1 := by kernel_rfl
theorem ta35 : tagg Tryz.prog 35 = some false := by kernel_rfl
theorem ts35 : tsz Tryz.prog 35 = some 1 := by kernel_rfl
theorem ta36 : tagg Tryz.prog 36 = some false := by kernel_rfl
theorem ts36 : tsz Tryz.prog 36 = some 1 := by kernel_rfl
theorem ta38 : tagg Tryz.prog 38 = some true := by kernel_rfl
theorem ts38 : tsz Tryz.prog 38 = some 5 := by kernel_rfl
theorem ta40 : tagg Tryz.prog 40 = some true := by kernel_rfl
theorem ts40 : tsz Tryz.prog 40 = some 12 := by kernel_rfl
theorem ta57 : tagg Tryz.prog 57 = some true := by kernel_rfl
theorem ts57 : tsz Tryz.prog 57 = some 10 := by kernel_rfl
theorem ta63 : tagg Tryz.prog 63 = some true := by kernel_rfl
theorem ts63 : tsz Tryz.prog 63 = some 3 := by kernel_rfl
theorem ta65 : tagg Tryz.prog 65 = some true := by kernel_rfl
theorem ts65 : tsz Tryz.prog 65 = some 3 := by kernel_rfl
theorem fo27_0 : F.fOff Tryz.prog 27 0 = some 0 := by kernel_rfl
theorem fo27_1 : F.fOff Tryz.prog 27 1 = some 1 := by kernel_rfl
theorem fo27_2 : F.fOff Tryz.prog 27 2 = some 2 := by kernel_rfl
theorem fo27_3 : F.fOff Tryz.prog 27 3 = some 3 := by kernel_rfl
theorem fo30_5 : F.fOff Tryz.prog 30 5 = some 5 := by kernel_rfl
theorem fo30_6 : F.fOff Tryz.prog 30 6 = some 9 := by kernel_rfl
theorem fo30_7 : F.fOff Tryz.prog 30 7 = some 10 := by kernel_rfl
theorem fo38_0 : F.fOff Tryz.prog 38 0 = some 0 := by kernel_rfl
theorem fo38_1 : F.fOff Tryz.prog 38 1 = some 1 := by kernel_rfl
theorem fo38_2 : F.fOff Tryz.prog 38 2 = some 2 := by kernel_rfl
theorem fo38_3 : F.fOff Tryz.prog 38 3 = some 3 := by kernel_rfl
theorem fo40_0 : F.fOff Tryz.prog 40 0 = some 0 := by kernel_rfl
theorem fo40_1 : F.fOff Tryz.prog 40 1 = some 1 := by kernel_rfl
theorem fo40_2 : F.fOff Tryz.prog 40 2 = some 2 := by kernel_rfl
theorem fo40_3 : F.fOff Tryz.prog 40 3 = some 3 := by kernel_rfl
theorem fo40_4 : F.fOff Tryz.prog 40 4 = some 4 := by kernel_rfl
theorem fo40_5 : F.fOff Tryz.prog 40 5 = some 5 := by kernel_rfl
theorem fo40_6 : F.fOff Tryz.prog 40 6 = some 6 := by kernel_rfl
theorem fo40_7 : F.fOff Tryz.prog 40 7 = some 7 := by kernel_rfl
theorem fo57_0 : F.fOff Tryz.prog 57 0 = some 0 := by kernel_rfl
theorem un2 : Tryz.prog.underlying 2 = some (.int .i64) := by kernel_rfl
theorem co2 : Tryz.prog.cellsOf 2 = 1 := by kernel_rfl
theorem un3 : Tryz.prog.underlying 3 = some (.int .i64) := by kernel_rfl
theorem co3 : Tryz.prog.cellsOf 3 = 1 := by kernel_rfl
theorem un4 : Tryz.prog.underlying 4 = some .bool := by kernel_rfl
theorem co4 : Tryz.prog.cellsOf 4 = 1 := by kernel_rfl
theorem un9 : Tryz.prog.underlying 9 = some .string := by kernel_rfl
theorem co9 : Tryz.prog.cellsOf 9 = 1 := by kernel_rfl
theorem un22 : Tryz.prog.underlying 22 = some (.slice 106) := by kernel_rfl
theorem co22 : Tryz.prog.cellsOf 22 = 1 := by kernel_rfl
theorem un23 : Tryz.prog.underlying 23 = some (.slice 9) := by kernel_rfl
theorem co23 : Tryz.prog.cellsOf 23 = 1 := by kernel_rfl
theorem un24 : Tryz.prog.underlying 24 = some (.slice 109) := by kernel_rfl
theorem co24 : Tryz.prog.cellsOf 24 = 1 := by kernel_rfl
theorem un25 : Tryz.prog.underlying 25 = some (.slice 112) := by kernel_rfl
theorem co25 : Tryz.prog.cellsOf 25 = 1 := by kernel_rfl
noncomputable def fs27 : Array Field := match Tryz.prog.underlying 27 with | some (.struct fs) => fs | _ => #[]
theorem ft27 : fs27.toList.map (fun f => f.type) = [22, 23, 24, 25] := by kernel_rfl
theorem un27 : Tryz.prog.underlying 27 = some (.struct fs27) := by kernel_rfl
theorem fp27 : fs27.toList.map (fun f => (f.type, f.offset)) = [(22, 0), (23, 1), (24, 2), (25, 3)] := by kernel_rfl
theorem eg27 : Tryz.prog.eqGuardType Tryz.prog.depth 27 = false := by kernel_rfl
theorem sh27 : Tryz.prog.stoodInHeld 27 = false := by kernel_rfl
theorem co27 : Tryz.prog.cellsOf 27 = 4 := by kernel_rfl
theorem un28 : Tryz.prog.underlying 28 = some (.slice 40) := by kernel_rfl
theorem co28 : Tryz.prog.cellsOf 28 = 1 := by kernel_rfl
noncomputable def fs30 : Array Field := match Tryz.prog.underlying 30 with | some (.struct fs) => fs | _ => #[]
theorem ft30 : fs30.toList.map (fun f => f.type) = [9, 3, 3, 3, 4, 27, 23, 28] := by kernel_rfl
theorem un30 : Tryz.prog.underlying 30 = some (.struct fs30) := by kernel_rfl
theorem fp30 : fs30.toList.map (fun f => (f.type, f.offset)) = [(9, 0), (3, 1), (3, 2), (3, 3), (4, 4), (27, 5), (23, 9), (28, 10)] := by kernel_rfl
theorem eg30 : Tryz.prog.eqGuardType Tryz.prog.depth 30 = false := by kernel_rfl
theorem sh30 : Tryz.prog.stoodInHeld 30 = false := by kernel_rfl
theorem co30 : Tryz.prog.cellsOf 30 = 11 := by kernel_rfl
theorem un33 : Tryz.prog.underlying 33 = some (.slice 63) := by kernel_rfl
theorem co33 : Tryz.prog.cellsOf 33 = 1 := by kernel_rfl
theorem un34 : Tryz.prog.underlying 34 = some (.slice 65) := by kernel_rfl
theorem co34 : Tryz.prog.cellsOf 34 = 1 := by kernel_rfl
theorem un35 : Tryz.prog.underlying 35 = some (.slice 57) := by kernel_rfl
theorem co35 : Tryz.prog.cellsOf 35 = 1 := by kernel_rfl
theorem un36 : Tryz.prog.underlying 36 = some (.slice 38) := by kernel_rfl
theorem co36 : Tryz.prog.cellsOf 36 = 1 := by kernel_rfl
noncomputable def fs38 : Array Field := match Tryz.prog.underlying 38 with | some (.struct fs) => fs | _ => #[]
theorem ft38 : fs38.toList.map (fun f => f.type) = [3, 9, 2, 36, 3] := by kernel_rfl
theorem un38 : Tryz.prog.underlying 38 = some (.struct fs38) := by kernel_rfl
theorem fp38 : fs38.toList.map (fun f => (f.type, f.offset)) = [(3, 0), (9, 1), (2, 2), (36, 3), (3, 4)] := by kernel_rfl
theorem eg38 : Tryz.prog.eqGuardType Tryz.prog.depth 38 = false := by kernel_rfl
theorem sh38 : Tryz.prog.stoodInHeld 38 = false := by kernel_rfl
theorem co38 : Tryz.prog.cellsOf 38 = 5 := by kernel_rfl
noncomputable def fs40 : Array Field := match Tryz.prog.underlying 40 with | some (.struct fs) => fs | _ => #[]
theorem ft40 : fs40.toList.map (fun f => f.type) = [9, 3, 3, 2, 33, 34, 35, 38] := by kernel_rfl
theorem un40 : Tryz.prog.underlying 40 = some (.struct fs40) := by kernel_rfl
theorem fp40 : fs40.toList.map (fun f => (f.type, f.offset)) = [(9, 0), (3, 1), (3, 2), (2, 3), (33, 4), (34, 5), (35, 6), (38, 7)] := by kernel_rfl
theorem eg40 : Tryz.prog.eqGuardType Tryz.prog.depth 40 = false := by kernel_rfl
theorem sh40 : Tryz.prog.stoodInHeld 40 = false := by kernel_rfl
theorem co40 : Tryz.prog.cellsOf 40 = 12 := by kernel_rfl
noncomputable def fs57 : Array Field := match Tryz.prog.underlying 57 with | some (.struct fs) => fs | _ => #[]
theorem ft57 : fs57.toList.map (fun f => f.type) = [9, 3, 2, 2, 2, 3, 3, 3, 2, 2] := by kernel_rfl
theorem un57 : Tryz.prog.underlying 57 = some (.struct fs57) := by kernel_rfl
theorem fp57 : fs57.toList.map (fun f => (f.type, f.offset)) = [(9, 0), (3, 1), (2, 2), (2, 3), (2, 4), (3, 5), (3, 6), (3, 7), (2, 8), (2, 9)] := by kernel_rfl
theorem eg57 : Tryz.prog.eqGuardType Tryz.prog.depth 57 = false := by kernel_rfl
theorem sh57 : Tryz.prog.stoodInHeld 57 = false := by kernel_rfl
theorem co57 : Tryz.prog.cellsOf 57 = 10 := by kernel_rfl
noncomputable def fs63 : Array Field := match Tryz.prog.underlying 63 with | some (.struct fs) => fs | _ => #[]
theorem ft63 : fs63.toList.map (fun f => f.type) = [9, 3, 2] := by kernel_rfl
theorem un63 : Tryz.prog.underlying 63 = some (.struct fs63) := by kernel_rfl
theorem fp63 : fs63.toList.map (fun f => (f.type, f.offset)) = [(9, 0), (3, 1), (2, 2)] := by kernel_rfl
theorem eg63 : Tryz.prog.eqGuardType Tryz.prog.depth 63 = false := by kernel_rfl
theorem sh63 : Tryz.prog.stoodInHeld 63 = false := by kernel_rfl
theorem co63 : Tryz.prog.cellsOf 63 = 3 := by kernel_rfl
noncomputable def fs65 : Array Field := match Tryz.prog.underlying 65 with | some (.struct fs) => fs | _ => #[]
theorem ft65 : fs65.toList.map (fun f => f.type) = [9, 2, 3] := by kernel_rfl
theorem un65 : Tryz.prog.underlying 65 = some (.struct fs65) := by kernel_rfl
theorem fp65 : fs65.toList.map (fun f => (f.type, f.offset)) = [(9, 0), (2, 1), (3, 2)] := by kernel_rfl
theorem eg65 : Tryz.prog.eqGuardType Tryz.prog.depth 65 = false := by kernel_rfl
theorem sh65 : Tryz.prog.stoodInHeld 65 = false := by kernel_rfl
theorem co65 : Tryz.prog.cellsOf 65 = 3 := by kernel_rfl
theorem ix23 : F.ixSl Tryz.prog 23 = some 1 := by kernel_rfl
theorem ix28 : F.ixSl Tryz.prog 28 = some 12 := by kernel_rfl
theorem ix33 : F.ixSl Tryz.prog 33 = some 3 := by kernel_rfl
theorem ix34 : F.ixSl Tryz.prog 34 = some 3 := by kernel_rfl
theorem ix35 : F.ixSl Tryz.prog 35 = some 10 := by kernel_rfl
theorem ix36 : F.ixSl Tryz.prog 36 = some 5 := by kernel_rfl
end
end Go.Proofs.YthmmpnkmjbfimaaGreatDoor

/- The reference's small functions. -/
open Go Go.Ab Go.Proofs
namespace Go.Proofs.YthmmpnkmjbfimaaGreatDoor
set_option linter.unusedVariables false
set_option linter.unusedSectionVars false
variable [HasBase]
theorem small14 {c : List AV} (hc : HasT Tryz.prog 27 c) (k : Nat) (H : Heap) : ∃ b, callN Tryz.prog cfgD (k + 1) 13 [.agg c] H = some (.ret (.bool b), H) := by
  obtain ⟨a0, r0, rfl, h0, a1, r1, rfl, h1, a2, r2, rfl, h2, a3, r3, rfl, h3, rfl⟩ := hc.fields un27 ft27
  obtain ⟨x0, w0, rfl, s0, -⟩ := h0.sl_inv un22
  obtain ⟨x1, w1, rfl, s1, -⟩ := h1.sl_inv un23
  obtain ⟨x2, w2, rfl, s2, -⟩ := h2.sl_inv un24
  obtain ⟨x3, w3, rfl, s3, -⟩ := h3.sl_inv un25
  simp only [List.append_nil, List.cons_append, List.nil_append] at hc ⊢
  clear h0 h1 h2 h3
  obtain ⟨v, e1, b, rfl⟩ := call_pure (P := Tryz.prog) (cfg := cfgD) (k := k) (H := H) (f := 13) (args := [.agg [x0, x1, x2, x3]]) (R := fun v => ∃ b, v = .bool b) rfl rfl rfl Tryz.func13 rfl b13 (by rw [nt13]; simp) (frz1 (hc.aggA (by simp))) (by
    rw [nt13]
    refine rg_seq (rg_region l13_0 ?_)
    refine og_all (fun g' H' => g' 1 = .ptr 0 0 ∧ H'.get 0 = .row true 27 [x0, x1, x2, x3]) ?_ ?_
    · refine x_box rfl rfl hc.all ?_
      refine x_assign rfl ?_
      exact og_nil ⟨rfl, get_push_new _ _⟩
    rintro g H0 ⟨k1, hh0⟩
    refine rg_seq (rg_region l13_1 ?_)
    refine og_part 5 (fun g' H' => g' 1 = .ptr 0 0 ∧ H'.get 0 = .row true 27 [x0, x1, x2, x3] ∧ ∃ b, g' 7 = .bool b) ?_ ?_
    · refine x_fieldAddr (congrArg some k1) fo27_0 ?_
      refine x_load1 rfl ta22 (hh0) (by rfl) ?_
      refine x_len (evsC rfl evs0) rfl rfl (len_sl un22 (by assumption)) ?_
      refine x_bin rfl rfl rfl ?_
      refine x_move rfl ?_
      exact og_nil ⟨k1, hh0, _, rfl⟩
    rintro g0 H0 ⟨k1, hh0, b7, hb7⟩
    refine og_part 6 (fun g' H' => g' 1 = .ptr 0 0 ∧ H'.get 0 = .row true 27 [x0, x1, x2, x3] ∧ ∃ b, g' 13 = .bool b) ?_ ?_
    · cases b7
      · refine og_skip (by exact hb7) ?_
        refine og_skip (by exact hb7) ?_
        refine og_skip (by exact hb7) ?_
        refine og_skip (by exact hb7) ?_
        refine x_pickF (congrArg some hb7) rfl ?_
        refine x_move rfl ?_
        exact og_nil ⟨k1, hh0, _, rfl⟩
      · refine og_want (by exact hb7) ?_
        refine x_fieldAddr (congrArg some k1) fo27_1 ?_
        refine og_want (by exact hb7) ?_
        refine x_load1 rfl ta23 (hh0) (by rfl) ?_
        refine og_want (by exact hb7) ?_
        refine x_len (evsC rfl evs0) rfl rfl (len_sl un23 (by assumption)) ?_
        refine og_want (by exact hb7) ?_
        refine x_bin rfl rfl rfl ?_
        refine x_pickT (congrArg some hb7) rfl ?_
        refine x_move rfl ?_
        exact og_nil ⟨k1, hh0, _, rfl⟩
    rintro g1 H1 ⟨k1, hh0, b13, hb13⟩
    refine og_part 6 (fun g' H' => g' 1 = .ptr 0 0 ∧ H'.get 0 = .row true 27 [x0, x1, x2, x3] ∧ ∃ b, g' 19 = .bool b) ?_ ?_
    · cases b13
      · refine og_skip (by exact hb13) ?_
        refine og_skip (by exact hb13) ?_
        refine og_skip (by exact hb13) ?_
        refine og_skip (by exact hb13) ?_
        refine x_pickF (congrArg some hb13) rfl ?_
        refine x_move rfl ?_
        exact og_nil ⟨k1, hh0, _, rfl⟩
      · refine og_want (by exact hb13) ?_
        refine x_fieldAddr (congrArg some k1) fo27_2 ?_
        refine og_want (by exact hb13) ?_
        refine x_load1 rfl ta24 (hh0) (by rfl) ?_
        refine og_want (by exact hb13) ?_
        refine x_len (evsC rfl evs0) rfl rfl (len_sl un24 (by assumption)) ?_
        refine og_want (by exact hb13) ?_
        refine x_bin rfl rfl rfl ?_
        refine x_pickT (congrArg some hb13) rfl ?_
        refine x_move rfl ?_
        exact og_nil ⟨k1, hh0, _, rfl⟩
    rintro g2 H2 ⟨k1, hh0, b19, hb19⟩
    refine og_all (fun g' H' => ∃ b, g' 2 = .bool b) ?_ ?_
    · cases b19
      · refine og_skip (by exact hb19) ?_
        refine og_skip (by exact hb19) ?_
        refine og_skip (by exact hb19) ?_
        refine og_skip (by exact hb19) ?_
        refine x_pickF (congrArg some hb19) rfl ?_
        refine x_assign rfl ?_
        exact og_nil ⟨_, rfl⟩
      · refine og_want (by exact hb19) ?_
        refine x_fieldAddr (congrArg some k1) fo27_3 ?_
        refine og_want (by exact hb19) ?_
        refine x_load1 rfl ta25 (hh0) (by rfl) ?_
        refine og_want (by exact hb19) ?_
        refine x_len (evsC rfl evs0) rfl rfl (len_sl un25 (by assumption)) ?_
        refine og_want (by exact hb19) ?_
        refine x_bin rfl rfl rfl ?_
        refine x_pickT (congrArg some hb19) rfl ?_
        refine x_assign rfl ?_
        exact og_nil ⟨_, rfl⟩
    rintro g9 H9 ⟨b, hb⟩
    exact rg_ret (res_tmpF rs13 hb (frz_bool _ _ _) ⟨b, rfl⟩))
  exact ⟨b, e1⟩
end Go.Proofs.YthmmpnkmjbfimaaGreatDoor

/- The reference's measure of an expression. -/
open Go Go.Ab Go.Proofs
namespace Go.Proofs.YthmmpnkmjbfimaaGreatDoor
set_option linter.unusedVariables false
set_option linter.unusedSectionVars false
variable [HasBase]
theorem room : ∀ (N : Nat) (e : List AV), SizeOf.sizeOf e < N → HasT Tryz.prog 38 e → Ev fun k => ∀ (n : Int) (H : Heap), ∃ m, callN Tryz.prog cfgD k 49 [.agg e, .int .i64 n] H = some (.ret (.int .i64 m), H)
  | 0, e, h, _ => by omega
  | N + 1, e, hN, he => by
    obtain ⟨a0, r0, rfl, h0, a1, r1, rfl, h1, a2, r2, rfl, h2, a3, r3, rfl, h3, a4, r4, rfl, h4, rfl⟩ := he.fields un38 ft38
    obtain ⟨o, rfl, -⟩ := h0.int_inv un3
    obtain ⟨s, rfl, -⟩ := h1.str_inv un9
    obtain ⟨q, rfl, -⟩ := h2.int_inv un2
    obtain ⟨x, rows, rfl, sx, hx, hr, hrl, hmax⟩ := h3.sl_inv un36
    obtain ⟨p, rfl, -⟩ := h4.int_inv un3
    simp only [List.append_nil, List.cons_append, List.nil_append] at he hN ⊢
    clear h0 h1 h2 h3 h4
    have hkids : Ev fun k => ∀ r, r ∈ rows → ∀ (n : Int) (H : Heap), ∃ m, callN Tryz.prog cfgD k 49 [.agg r, .int .i64 n] H = some (.ret (.int .i64 m), H) := Ev.all fun r hm => by
      refine room N r ?_ (hr r hm)
      rcases hx with ⟨rfl, rfl⟩ | rfl
      · simp at hm
      · have := sizeOf_row hm true
        simp only [List.cons.sizeOf_spec] at hN
        omega
    refine (hkids.and (Ev.ge (rows.length + 1))).succ fun k hk n H => ?_
    obtain ⟨hkid, hge⟩ := hk
    obtain ⟨v, e1, b, rfl⟩ := call_pure (P := Tryz.prog) (cfg := cfgD) (k := k) (H := H) (f := 49) (args := [.agg [.int .i64 o, .str s, .int .i64 q, x, .int .i64 p], .int .i64 n]) (R := fun v => ∃ b, v = .int .i64 b) rfl rfl rfl Tryz.func49 rfl b49 (by rw [nt49]; simp) (frz2 (he.aggA (by simp)) (flat_int _ _).A) (by
      rw [nt49]
      refine rg_seq (rg_region l49_0 ?_)
      refine og_all (fun g' H' => g' 2 = .ptr 0 0 ∧ g' 1 = .int .i64 n ∧ H'.get 0 = .row true 38 [.int .i64 o, .str s, .int .i64 q, x, .int .i64 p]) ?_ ?_
      · refine x_box rfl rfl he.all ?_
        refine x_assign rfl ?_
        exact og_nil ⟨rfl, rfl, get_push_new _ _⟩
      rintro g H0 ⟨g2, g1, hh⟩
      refine rg_seq (rg_seq (rg_region l49_1 ?_))
      refine x_fieldAddr (congrArg some g2) fo38_1 ?_
      refine x_load1 rfl ta9 (by first | exact get_push_new _ _ | assumption | exact get_push_row (by assumption) | exact get_push_row (get_push_new _ _)) (by rfl) ?_
      refine x_len (evsC rfl evs0) rfl rfl (len_str un9) ?_
      refine x_bin rfl rfl rfl ?_
      refine og_nil ?_
      refine rg_cond rfl (fun _ => ?_) (fun _ => ?_)
      · refine rg_seq (rg_region l49_2 ?_)
        refine x_assign rfl ?_
        exact og_nil (rg_ret (res_tmpF rs49 rfl (frz_int _ _ _ _) ⟨_, rfl⟩))
      refine rg_skip ?_
      refine rg_seq (rg_region l49_3 ?_)
      refine og_all (fun g' H' => g' 2 = .ptr 0 0 ∧ H' = H0 ∧ ∃ m, g' 5 = .int .i64 m) ?_ ?_
      · refine x_move (congrArg some g1) ?_
        refine x_bin rfl rfl rfl ?_
        refine x_assign rfl ?_
        exact og_nil ⟨g2, rfl, _, rfl⟩
      rintro g' H' ⟨g2, rfl, m, g5⟩
      refine rg_seq (rg_seq (rg_region l49_4 ?_))
      refine x_assign rfl ?_
      refine og_nil ?_
      refine rg_block (rg_loop (fun z g H => ∃ (i : Nat) (m : Int), g 2 = .ptr 0 0 ∧ H.get 0 = .row true 38 [.int .i64 o, .str s, .int .i64 q, x, .int .i64 p] ∧ g 5 = .int .i64 m ∧ g 6 = .int .i64 i ∧ i ≤ rows.length ∧ z = rows.length - i) (m := rows.length) (by omega) ⟨0, m, g2, hh, g5, rfl, Nat.zero_le _, rfl⟩ ?_)
      rintro z g H ⟨i, m, g2, hh, g5, g6, hi, rfl⟩
      refine rg_seq (rg_seq (rg_region l49_5 ?_))
      refine og_part 6 (fun g' H' => H' = H ∧ g' 2 = .ptr 0 0 ∧ g' 5 = .int .i64 m ∧ g' 6 = .int .i64 i ∧ g' 18 = .bool (decide ((i : Int) < (rows.length : Int)))) ?_ ?_
      · refine x_move (congrArg some g6) ?_
        refine x_fieldAddr (congrArg some g2) fo38_3 ?_
        refine x_load1 rfl ta36 (by first | exact get_push_new _ _ | assumption | exact get_push_row (by assumption) | exact get_push_row (get_push_new _ _)) (by rfl) ?_
        refine x_len (evsC rfl evs0) rfl rfl (len_sl un36 (by assumption)) ?_
        refine x_bin rfl rfl rfl ?_
        refine x_move rfl ?_
        exact og_nil ⟨rfl, g2, g5, g6, rfl⟩
      rintro g' H' ⟨rfl, g2, g5, g6, g18⟩
      refine og_all (fun g' H'' => H'' = H' ∧ g' 2 = .ptr 0 0 ∧ g' 5 = .int .i64 m ∧ g' 6 = .int .i64 i ∧ ∃ b, g' 21 = .bool b ∧ (b = true → i < rows.length)) ?_ ?_
      · by_cases hc : (i : Int) < (rows.length : Int)
        · rw [decide_eq_true hc] at g18
          refine og_want (by exact g18) ?_
          refine x_move (congrArg some g5) ?_
          refine og_want (by exact g18) ?_
          refine x_bin rfl rfl rfl ?_
          refine x_pickT (congrArg some g18) rfl ?_
          exact og_nil ⟨rfl, g2, g5, g6, _, rfl, fun _ => by omega⟩
        · rw [decide_eq_false hc] at g18
          refine og_skip (by exact g18) ?_
          refine og_skip (by exact g18) ?_
          refine x_pickF (congrArg some g18) rfl ?_
          exact og_nil ⟨rfl, g2, g5, g6, _, rfl, fun h => by cases h⟩
      rintro g H'' ⟨rfl, g2, g5, g6, b, g21, hb⟩
      refine rg_cond (congrArg some g21) (fun hbt => rg_skip ?_) (fun _ => rg_exit ?_)
      · have hil := hb hbt
        obtain ⟨r, hri⟩ : ∃ r, rows[i]? = some r := ⟨rows[i], List.getElem?_eq_getElem hil⟩
        have hrm : r ∈ rows := List.mem_of_getElem? hri
        have hxi : x = .isl true rows := by
          rcases hx with ⟨rfl, rfl⟩ | rfl
          · simp at hil
          · rfl
        subst hxi
        obtain ⟨m', hm'⟩ := hkid r hrm m H''
        refine rg_seq (rg_block (rg_region l49_6 ?_))
        refine og_all (fun g' H' => H' = H'' ∧ g' 2 = .ptr 0 0 ∧ g' 5 = .int .i64 m' ∧ g' 6 = .int .i64 i) ?_ ?_
        · refine x_fieldAddr (congrArg some g2) fo38_3 ?_
          refine x_load1 rfl ta36 (by first | exact get_push_new _ _ | assumption | exact get_push_row (by assumption) | exact get_push_row (get_push_new _ _)) (by rfl) ?_
          refine x_move (congrArg some g6) ?_
          refine x_indexAddrI rfl rfl ix36 hri (by rw [hrl r hrm, co38]) ?_
          refine x_loadNE rfl ta38 ts38 (List.take_of_length_le (by rw [List.drop_zero, hrl r hrm, co38]; exact Nat.le_refl _)) (by rw [List.drop_zero, hrl r hrm, co38]) ?_
          refine x_move (congrArg some g5) ?_
          refine x_call (evsC rfl (evsC rfl evs0)) rfl hm' ?_
          refine x_assign rfl ?_
          exact og_nil ⟨rfl, g2, rfl, g6⟩
        rintro g H3 ⟨rfl, g2, g5, g6⟩
        refine rg_region l49_7 ?_
        refine x_move (congrArg some g6) ?_
        refine x_inc rfl (by omega) ?_
        refine x_assign rfl ?_
        exact og_nil ⟨rows.length - (i + 1), by omega, i + 1, m', g2, hh, g5, rfl, by omega, rfl⟩
      · show RG _ _ _ _ _ _ _ _
        refine rg_seq (rg_region l49_8 ?_)
        refine x_move (congrArg some g5) ?_
        refine x_assign rfl ?_
        exact og_nil (rg_ret (res_tmpF rs49 rfl (frz_int _ _ _ _) ⟨_, rfl⟩)))
    exact ⟨b, e1⟩
end Go.Proofs.YthmmpnkmjbfimaaGreatDoor

/- The reference's smallness of segments and rulesets: some truth value. -/
open Go Go.Ab Go.Proofs
namespace Go.Proofs.YthmmpnkmjbfimaaGreatDoor
set_option linter.unusedVariables false
set_option linter.unusedSectionVars false
variable [HasBase]
/-- The first cell's text. -/
def rowName (r : List AV) : List UInt8 := match r with | .str s :: _ => s | _ => []
def slRows (x : Option AV) : List (List AV) := match x with | some (.isl _ rows) => rows | _ => []
/-- A segment's panels; a ruleset's segments. -/
def panRows (r : List AV) : List (List AV) := slRows r[6]?
def segRows (r : List AV) : List (List AV) := slRows r[10]?
theorem small12 {e : List AV} (he : HasT Tryz.prog 38 e) : Ev fun k => ∀ H : Heap, ∃ b, callN Tryz.prog cfgD k 29 [.agg e, .int .i64 100] H = some (.ret (.bool b), H) := by
  refine (room (SizeOf.sizeOf e + 1) e (by omega) he).succ fun k hk H => ?_
  obtain ⟨a0, r0, rfl, h0, a1, r1, rfl, h1, a2, r2, rfl, h2, a3, r3, rfl, h3, a4, r4, rfl, h4, rfl⟩ := he.fields un38 ft38
  obtain ⟨o, rfl, -⟩ := h0.int_inv un3
  obtain ⟨s, rfl, -⟩ := h1.str_inv un9
  obtain ⟨q, rfl, -⟩ := h2.int_inv un2
  obtain ⟨x, rows, rfl, sx, -⟩ := h3.sl_inv un36
  obtain ⟨p, rfl, -⟩ := h4.int_inv un3
  simp only [List.append_nil, List.cons_append, List.nil_append] at he hk ⊢
  obtain ⟨v, e1, b, rfl⟩ := call_pure (P := Tryz.prog) (cfg := cfgD) (k := k) (H := H) (f := 29) (args := [.agg [.int .i64 o, .str s, .int .i64 q, x, .int .i64 p], .int .i64 100]) (R := fun v => ∃ b, v = .bool b) rfl rfl rfl Tryz.func29 rfl b29 (by rw [nt29]; simp) (frz2 (he.aggA (by simp)) (flat_int _ _).A) (by
    rw [nt29]
    refine rg_seq (rg_region l29_0 ?_)
    refine x_box rfl rfl he.all ?_
    refine x_assign rfl ?_
    refine og_nil (rg_seq (rg_region l29_1 ?_))
    obtain ⟨m, hm⟩ := hk 100 (Heap.empty.push (.row true 38 (F.rl [.agg [.int .i64 o, .str s, .int .i64 q, x, .int .i64 p], .int .i64 100] 0).cells))
    refine x_loadN rfl ta38 ts38 (get_push_new _ _) rfl rfl ?_
    refine x_move rfl ?_
    refine x_call (evsC rfl (evsC rfl evs0)) rfl hm ?_
    refine x_bin rfl rfl rfl ?_
    refine x_assign rfl ?_
    exact og_nil (rg_ret (res_tmpF rs29 rfl (frz_bool _ _ _) ⟨_, rfl⟩)))
  exact ⟨b, e1⟩
theorem small15 {c : List AV} (hc : HasT Tryz.prog 40 c) : Ev fun k => ∀ H : Heap, ∃ b, callN Tryz.prog cfgD k 14 [.agg c] H = some (.ret (.bool b), H) ∧ (b = true → (panRows c).length ≤ 10) := by
  obtain ⟨a0, r0, rfl, h0, a1, r1, rfl, h1, a2, r2, rfl, h2, a3, r3, rfl, h3, a4, r4, rfl, h4, a5, r5, rfl, h5, a6, r6, rfl, h6, a7, r7, rfl, he, rfl⟩ := hc.fields un40 ft40
  refine (small12 he).succ fun k hk H => ?_
  obtain ⟨nm, rfl, -⟩ := h0.str_inv un9
  obtain ⟨i1, rfl, -⟩ := h1.int_inv un3
  obtain ⟨i2, rfl, -⟩ := h2.int_inv un3
  obtain ⟨i3, rfl, -⟩ := h3.int_inv un2
  obtain ⟨x4, w4, rfl, s4, -⟩ := h4.sl_inv un33
  obtain ⟨x5, w5, rfl, s5, -⟩ := h5.sl_inv un34
  obtain ⟨x6, w6, rfl, s6, -⟩ := h6.sl_inv un35
  obtain ⟨a0, r0, rfl, h0, a1, r1, rfl, h1, a2, r2, rfl, h2, a3, r3, rfl, h3, a4, r4, rfl, h4, rfl⟩ := he.fields un38 ft38
  obtain ⟨o, rfl, -⟩ := h0.int_inv un3
  obtain ⟨s, rfl, -⟩ := h1.str_inv un9
  obtain ⟨q, rfl, -⟩ := h2.int_inv un2
  obtain ⟨x, rows, rfl, sx, -⟩ := h3.sl_inv un36
  obtain ⟨p, rfl, -⟩ := h4.int_inv un3
  simp only [List.append_nil, List.cons_append, List.nil_append] at hc hk ⊢
  clear h0 h1 h2 h3 h4 he
  have hpan : panRows [.str nm, .int .i64 i1, .int .i64 i2, .int .i64 i3, x4, x5, x6, .int .i64 o, .str s, .int .i64 q, x, .int .i64 p] = w6 := by cases s6 <;> rfl
  rw [hpan]
  obtain ⟨v, e1, b, rfl, e2⟩ := call_pure (P := Tryz.prog) (cfg := cfgD) (k := k) (H := H) (f := 14) (args := [.agg [.str nm, .int .i64 i1, .int .i64 i2, .int .i64 i3, x4, x5, x6, .int .i64 o, .str s, .int .i64 q, x, .int .i64 p]]) (R := fun v => ∃ b, v = .bool b ∧ (b = true → w6.length ≤ 10)) rfl rfl rfl Tryz.func14 rfl b14 (by rw [nt14]; simp) (frz1 (hc.aggA (by simp))) (by
    rw [nt14]
    refine rg_seq (rg_region l14_0 ?_)
    refine og_all (fun g' H' => g' 1 = .ptr 0 0 ∧ H'.get 0 = .row true 40 [.str nm, .int .i64 i1, .int .i64 i2, .int .i64 i3, x4, x5, x6, .int .i64 o, .str s, .int .i64 q, x, .int .i64 p]) ?_ ?_
    · refine x_box rfl rfl hc.all ?_
      refine x_assign rfl ?_
      exact og_nil ⟨rfl, get_push_new _ _⟩
    rintro g H0 ⟨k1, hh0⟩
    refine rg_seq (rg_region l14_1 ?_)
    refine og_part 5 (fun g' H' => g' 1 = .ptr 0 0 ∧ H'.get 0 = .row true 40 [.str nm, .int .i64 i1, .int .i64 i2, .int .i64 i3, x4, x5, x6, .int .i64 o, .str s, .int .i64 q, x, .int .i64 p] ∧ ∃ b, g' 7 = .bool b) ?_ ?_
    · refine x_fieldAddr (congrArg some k1) fo40_4 ?_
      refine x_load1 rfl ta33 (hh0) (by rfl) ?_
      refine x_len (evsC rfl evs0) rfl rfl (len_sl un33 (by assumption)) ?_
      refine x_bin rfl rfl rfl ?_
      refine x_move rfl ?_
      exact og_nil ⟨k1, hh0, _, rfl⟩
    rintro g0 H0 ⟨k1, hh0, b7, hb7⟩
    refine og_part 6 (fun g' H' => g' 1 = .ptr 0 0 ∧ H'.get 0 = .row true 40 [.str nm, .int .i64 i1, .int .i64 i2, .int .i64 i3, x4, x5, x6, .int .i64 o, .str s, .int .i64 q, x, .int .i64 p] ∧ ∃ b, g' 13 = .bool b) ?_ ?_
    · cases b7
      · refine og_skip (by exact hb7) ?_
        refine og_skip (by exact hb7) ?_
        refine og_skip (by exact hb7) ?_
        refine og_skip (by exact hb7) ?_
        refine x_pickF (congrArg some hb7) rfl ?_
        refine x_move rfl ?_
        exact og_nil ⟨k1, hh0, _, rfl⟩
      · refine og_want (by exact hb7) ?_
        refine x_fieldAddr (congrArg some k1) fo40_5 ?_
        refine og_want (by exact hb7) ?_
        refine x_load1 rfl ta34 (hh0) (by rfl) ?_
        refine og_want (by exact hb7) ?_
        refine x_len (evsC rfl evs0) rfl rfl (len_sl un34 (by assumption)) ?_
        refine og_want (by exact hb7) ?_
        refine x_bin rfl rfl rfl ?_
        refine x_pickT (congrArg some hb7) rfl ?_
        refine x_move rfl ?_
        exact og_nil ⟨k1, hh0, _, rfl⟩
    rintro g1 H1 ⟨k1, hh0, b13, hb13⟩
    refine og_part 6 (fun g' H' => g' 1 = .ptr 0 0 ∧ H'.get 0 = .row true 40 [.str nm, .int .i64 i1, .int .i64 i2, .int .i64 i3, x4, x5, x6, .int .i64 o, .str s, .int .i64 q, x, .int .i64 p] ∧ ∃ b, g' 19 = .bool b ∧ (b = true → w6.length ≤ 10)) ?_ ?_
    · cases b13
      · refine og_skip (by exact hb13) ?_
        refine og_skip (by exact hb13) ?_
        refine og_skip (by exact hb13) ?_
        refine og_skip (by exact hb13) ?_
        refine x_pickF (congrArg some hb13) rfl ?_
        refine x_move rfl ?_
        exact og_nil ⟨k1, hh0, _, rfl, fun h => by cases h⟩
      · refine og_want (by exact hb13) ?_
        refine x_fieldAddr (congrArg some k1) fo40_6 ?_
        refine og_want (by exact hb13) ?_
        refine x_load1 rfl ta35 (hh0) (by rfl) ?_
        refine og_want (by exact hb13) ?_
        refine x_len (evsC rfl evs0) rfl rfl (len_sl un35 (by assumption)) ?_
        refine og_want (by exact hb13) ?_
        refine x_bin rfl rfl rfl ?_
        refine x_pickT (congrArg some hb13) rfl ?_
        refine x_move rfl ?_
        exact og_nil ⟨k1, hh0, _, rfl, fun h => by have := of_decide_eq_true h; omega⟩
    rintro g2 H2 ⟨k1, hh0, b19, hb19, hx19⟩
    refine og_all (fun g' H' => ∃ b, g' 2 = .bool b ∧ (b = true → w6.length ≤ 10)) ?_ ?_
    · cases b19
      · refine og_skip (by exact hb19) ?_
        refine og_skip (by exact hb19) ?_
        refine og_skip (by exact hb19) ?_
        refine x_pickF (congrArg some hb19) rfl ?_
        refine x_assign rfl ?_
        exact og_nil ⟨_, rfl, fun h => by cases h⟩
      · refine og_want (by exact hb19) ?_
        refine x_fieldAddr (congrArg some k1) fo40_7 ?_
        refine og_want (by exact hb19) ?_
        refine x_loadN rfl ta38 ts38 hh0 rfl rfl ?_
        refine og_want (by exact hb19) ?_
        obtain ⟨bc, hbc⟩ := hk H2
        refine x_call (evsC rfl (evsC rfl evs0)) rfl hbc ?_
        refine x_pickT (congrArg some hb19) rfl ?_
        refine x_assign rfl ?_
        exact og_nil ⟨_, rfl, fun _ => hx19 rfl⟩
    rintro g9 H9 ⟨b, hb, hx⟩
    exact rg_ret (res_tmpF rs14 hb (frz_bool _ _ _) ⟨b, rfl, hx⟩))
  exact ⟨b, e1, e2⟩
theorem small16 {c : List AV} (hc : HasT Tryz.prog 30 c) : Ev fun k => ∀ H : Heap, ∃ b, callN Tryz.prog cfgD k 5 [.agg c] H = some (.ret (.bool b), H) ∧ (b = true → ∀ r, r ∈ segRows c → (panRows r).length ≤ 10) := by
  obtain ⟨a0, r0, rfl, h0, a1, r1, rfl, h1, a2, r2, rfl, h2, a3, r3, rfl, h3, a4, r4, rfl, h4, a5, r5, rfl, h5, a6, r6, rfl, h6, a7, r7, rfl, h7, rfl⟩ := hc.fields un30 ft30
  obtain ⟨nm, rfl, -⟩ := h0.str_inv un9
  obtain ⟨se, rfl, -⟩ := h1.int_inv un3
  obtain ⟨di, rfl, -⟩ := h2.int_inv un3
  obtain ⟨mo, rfl, -⟩ := h3.int_inv un3
  obtain ⟨ex, rfl⟩ := h4.bool_inv un4
  obtain ⟨xt, wt, rfl, st, -⟩ := h6.sl_inv un23
  obtain ⟨xs, ws, rfl, ss, hxs, hws, hwl, hmax⟩ := h7.sl_inv un28
  have hcat := fun k H => small14 h5 k H
  obtain ⟨a0, r0, rfl, h0, a1, r1, rfl, h1, a2, r2, rfl, h2, a3, r3, rfl, h3, rfl⟩ := h5.fields un27 ft27
  obtain ⟨c0, w0, rfl, s0, -⟩ := h0.sl_inv un22
  obtain ⟨c1, w1, rfl, s1, -⟩ := h1.sl_inv un23
  obtain ⟨c2, w2, rfl, s2, -⟩ := h2.sl_inv un24
  obtain ⟨c3, w3, rfl, s3, -⟩ := h3.sl_inv un25
  simp only [List.append_nil, List.cons_append, List.nil_append] at hc hcat ⊢
  clear h0 h1 h2 h3 h4 h5 h6 h7
  have hsr : segRows [.str nm, .int .i64 se, .int .i64 di, .int .i64 mo, .bool ex, c0, c1, c2, c3, xt, xs] = ws := by cases ss <;> rfl
  rw [hsr]
  have hsegs : Ev fun k => ∀ r, r ∈ ws → ∀ H : Heap, ∃ b, callN Tryz.prog cfgD k 14 [.agg r] H = some (.ret (.bool b), H) ∧ (b = true → (panRows r).length ≤ 10) := Ev.all fun r hm => small15 (hws r hm)
  refine ((hsegs.and (Ev.ge (ws.length + 1))).and (Ev.ge 1)).succ fun k hk H => ?_
  obtain ⟨⟨hseg, hge⟩, hk1⟩ := hk
  obtain ⟨k', rfl⟩ : ∃ k', k = k' + 1 := ⟨k - 1, by omega⟩
  obtain ⟨v, e1, b, rfl, e2⟩ := call_pure (P := Tryz.prog) (cfg := cfgD) (k := k' + 1) (H := H) (f := 5) (args := [.agg [.str nm, .int .i64 se, .int .i64 di, .int .i64 mo, .bool ex, c0, c1, c2, c3, xt, xs]]) (R := fun v => ∃ b, v = .bool b ∧ (b = true → ∀ r, r ∈ ws → (panRows r).length ≤ 10)) rfl rfl rfl Tryz.func5 rfl b5 (by rw [nt5]; simp) (frz1 (hc.aggA (by simp))) (by
    rw [nt5]
    refine rg_seq (rg_region l5_0 ?_)
    refine og_all (fun g' H' => g' 1 = .ptr 0 0 ∧ H'.get 0 = .row true 30 [.str nm, .int .i64 se, .int .i64 di, .int .i64 mo, .bool ex, c0, c1, c2, c3, xt, xs]) ?_ ?_
    · refine x_box rfl rfl hc.all ?_
      refine x_assign rfl ?_
      exact og_nil ⟨rfl, get_push_new _ _⟩
    rintro g H0 ⟨k1, hh0⟩
    obtain ⟨bc, hbc⟩ := hcat k' H0
    refine rg_seq (rg_seq (rg_region l5_1 ?_))
    refine og_all (fun g' H' => (g' 1 = .ptr 0 0 ∧ H'.get 0 = .row true 30 [.str nm, .int .i64 se, .int .i64 di, .int .i64 mo, .bool ex, c0, c1, c2, c3, xt, xs]) ∧ ∃ b, g' 19 = .bool b) ?_ ?_
    · refine og_part 5 (fun g' H' => g' 1 = .ptr 0 0 ∧ H'.get 0 = .row true 30 [.str nm, .int .i64 se, .int .i64 di, .int .i64 mo, .bool ex, c0, c1, c2, c3, xt, xs] ∧ ∃ b, g' 8 = .bool b) ?_ ?_
      · refine x_fieldAddr (congrArg some k1) fo30_5 ?_
        refine x_loadN rfl ta27 ts27 hh0 rfl rfl ?_
        refine x_call (evsC rfl evs0) rfl hbc ?_
        refine x_un rfl rfl ?_
        refine x_move rfl ?_
        exact og_nil ⟨k1, hh0, _, rfl⟩
      rintro g0 H0 ⟨k1, hh0, b8, hb8⟩
      refine og_part 6 (fun g' H' => g' 1 = .ptr 0 0 ∧ H'.get 0 = .row true 30 [.str nm, .int .i64 se, .int .i64 di, .int .i64 mo, .bool ex, c0, c1, c2, c3, xt, xs] ∧ ∃ b, g' 14 = .bool b) ?_ ?_
      · cases b8
        · refine og_want (by exact hb8) ?_
          refine x_fieldAddr (congrArg some k1) fo30_7 ?_
          refine og_want (by exact hb8) ?_
          refine x_load1 rfl ta28 (hh0) (by rfl) ?_
          refine og_want (by exact hb8) ?_
          refine x_len (evsC rfl evs0) rfl rfl (len_sl un28 (by assumption)) ?_
          refine og_want (by exact hb8) ?_
          refine x_bin rfl rfl rfl ?_
          refine x_pickF (congrArg some hb8) rfl ?_
          refine x_move rfl ?_
          exact og_nil ⟨k1, hh0, _, rfl⟩
        · refine og_skip (by exact hb8) ?_
          refine og_skip (by exact hb8) ?_
          refine og_skip (by exact hb8) ?_
          refine og_skip (by exact hb8) ?_
          refine x_pickT (congrArg some hb8) rfl ?_
          refine x_move rfl ?_
          exact og_nil ⟨k1, hh0, _, rfl⟩
      rintro g1 H1 ⟨k1, hh0, b14, hb14⟩
      · cases b14
        · refine og_want (by exact hb14) ?_
          refine x_fieldAddr (congrArg some k1) fo30_6 ?_
          refine og_want (by exact hb14) ?_
          refine x_load1 rfl ta23 (hh0) (by rfl) ?_
          refine og_want (by exact hb14) ?_
          refine x_len (evsC rfl evs0) rfl rfl (len_sl un23 (by assumption)) ?_
          refine og_want (by exact hb14) ?_
          refine x_bin rfl rfl rfl ?_
          refine x_pickF (congrArg some hb14) rfl ?_
          exact og_nil ⟨⟨k1, hh0⟩, _, rfl⟩
        · refine og_skip (by exact hb14) ?_
          refine og_skip (by exact hb14) ?_
          refine og_skip (by exact hb14) ?_
          refine og_skip (by exact hb14) ?_
          refine x_pickT (congrArg some hb14) rfl ?_
          exact og_nil ⟨⟨k1, hh0⟩, _, rfl⟩
    rintro g9 H9 ⟨⟨k1, hh⟩, b19, hb19⟩
    refine rg_cond (congrArg some hb19) (fun _ => ?_) (fun _ => rg_skip ?_)
    · refine rg_seq (rg_region l5_2 ?_)
      refine x_assign rfl ?_
      exact og_nil (rg_ret (res_tmpF rs5 rfl (frz_bool _ _ _) ⟨_, rfl, fun h => by cases h⟩))
    refine rg_seq (rg_seq (rg_region l5_3 ?_))
    refine x_assign rfl ?_
    refine og_nil ?_
    refine rg_block (rg_loop (fun z g H => ∃ i : Nat, g 1 = .ptr 0 0 ∧ H.get 0 = .row true 30 [.str nm, .int .i64 se, .int .i64 di, .int .i64 mo, .bool ex, c0, c1, c2, c3, xt, xs] ∧ g 3 = .int .i64 i ∧ i ≤ ws.length ∧ z = ws.length - i ∧ ∀ j r, j < i → ws[j]? = some r → (panRows r).length ≤ 10) (m := ws.length) (by omega) ⟨0, k1, hh, rfl, Nat.zero_le _, rfl, fun j r h => absurd h (by omega)⟩ ?_)
    rintro z g H ⟨i, k1, hh, g3, hi, rfl, hlt⟩
    refine rg_seq (rg_seq (rg_region l5_4 ?_))
    refine og_all (fun g' H' => H' = H ∧ g' 1 = .ptr 0 0 ∧ g' 3 = .int .i64 i ∧ g' 24 = .bool (decide ((i : Int) < (ws.length : Int)))) ?_ ?_
    · refine x_move (congrArg some g3) ?_
      refine x_fieldAddr (congrArg some k1) fo30_7 ?_
      refine x_load1 rfl ta28 (hh) (by rfl) ?_
      refine x_len (evsC rfl evs0) rfl rfl (len_sl un28 (by assumption)) ?_
      refine x_bin rfl rfl rfl ?_
      exact og_nil ⟨rfl, k1, g3, rfl⟩
    rintro g H' ⟨rfl, k1, g3, g24⟩
    refine rg_cond (congrArg some g24) (fun hc => rg_skip ?_) (fun hif => rg_exit ?_)
    · have hil : i < ws.length := by have := of_decide_eq_true hc; omega
      obtain ⟨r, hri⟩ : ∃ r, ws[i]? = some r := ⟨ws[i], List.getElem?_eq_getElem hil⟩
      have hrm : r ∈ ws := List.mem_of_getElem? hri
      have hxi : xs = .isl true ws := by
        rcases hxs with ⟨rfl, rfl⟩ | rfl
        · simp at hil
        · rfl
      subst hxi
      have hrl : r.length = 12 := by rw [hwl r hrm, co40]
      obtain ⟨bs, hbs, hbt⟩ := hseg r hrm H'
      refine rg_seq (rg_block (rg_seq (rg_region l5_5 ?_)))
      refine og_all (fun g' H'' => H'' = H' ∧ g' 1 = .ptr 0 0 ∧ g' 3 = .int .i64 i ∧ g' 33 = .bool (!bs)) ?_ ?_
      · refine x_fieldAddr (congrArg some k1) fo30_7 ?_
        refine x_load1 rfl ta28 (hh) (by rfl) ?_
        refine x_move (congrArg some g3) ?_
        refine x_indexAddrI rfl rfl ix28 hri hrl ?_
        refine x_loadNE rfl ta40 ts40 (List.take_of_length_le (by rw [List.drop_zero, hrl]; exact Nat.le_refl _)) (by rw [List.drop_zero, hrl]) ?_
        refine x_call (evsC rfl evs0) rfl hbs ?_
        refine x_un rfl rfl ?_
        exact og_nil ⟨rfl, k1, g3, rfl⟩
      rintro g H3 ⟨rfl, k1, g3, g33⟩
      refine rg_cond (congrArg some g33) (fun _ => ?_) (fun hbf => rg_skip ?_)
      · refine rg_seq (rg_region l5_6 ?_)
        refine x_assign rfl ?_
        exact og_nil (rg_ret (res_tmpF rs5 rfl (frz_bool _ _ _) ⟨_, rfl, fun h => by cases h⟩))
      refine rg_region l5_7 ?_
      refine x_move (congrArg some g3) ?_
      refine x_inc rfl (by omega) ?_
      refine x_assign rfl ?_
      exact og_nil ⟨ws.length - (i + 1), by omega, i + 1, k1, hh, rfl, by omega, rfl, fun j r' hj hr' => by
        by_cases hji : j = i
        · subst hji
          rw [hri] at hr'
          cases hr'
          exact hbt (by simpa using hbf)
        · exact hlt j r' (by omega) hr'⟩
    · show RG _ _ _ _ _ _ _ _
      refine rg_seq (rg_region l5_8 ?_)
      refine x_assign rfl ?_
      exact og_nil (rg_ret (res_tmpF rs5 rfl (frz_bool _ _ _) ⟨_, rfl, fun _ r hr => by
        obtain ⟨j, hj⟩ := List.getElem?_of_mem hr
        have hjl : j < ws.length := (List.getElem?_eq_some_iff.1 hj).1
        have : ¬ ((i : Int) < (ws.length : Int)) := of_decide_eq_false hif
        exact hlt j r (by omega) hj⟩)))
  exact ⟨b, e1, e2⟩
end Go.Proofs.YthmmpnkmjbfimaaGreatDoor

/- The reference's comparisons: what is held against itself is the same. -/
open Go Go.Ab Go.Proofs
namespace Go.Proofs.YthmmpnkmjbfimaaGreatDoor
set_option linter.unusedVariables false
set_option linter.unusedSectionVars false
variable [HasBase]
theorem equal12 : ∀ (N : Nat) (e : List AV), SizeOf.sizeOf e < N → HasT Tryz.prog 38 e → Ev fun k => ∀ H : Heap, callN Tryz.prog cfgD k 21 [.agg e, .agg e] H = some (.ret (.bool true), H)
  | 0, e, h, _ => by omega
  | N + 1, e, hN, he => by
    obtain ⟨a0, r0, rfl, h0, a1, r1, rfl, h1, a2, r2, rfl, h2, a3, r3, rfl, h3, a4, r4, rfl, h4, rfl⟩ := he.fields un38 ft38
    obtain ⟨o, rfl, -⟩ := h0.int_inv un3
    obtain ⟨s, rfl, -⟩ := h1.str_inv un9
    obtain ⟨q, rfl, -⟩ := h2.int_inv un2
    obtain ⟨x, rows, rfl, sx, hx, hr, hrl, hmax⟩ := h3.sl_inv un36
    obtain ⟨p, rfl, -⟩ := h4.int_inv un3
    simp only [List.append_nil, List.cons_append, List.nil_append] at he hN ⊢
    clear h0 h1 h2 h3 h4
    have hkids : Ev fun k => ∀ r, r ∈ rows → ∀ H : Heap, callN Tryz.prog cfgD k 21 [.agg r, .agg r] H = some (.ret (.bool true), H) := Ev.all fun r hm => by
      refine equal12 N r ?_ (hr r hm)
      rcases hx with ⟨rfl, rfl⟩ | rfl
      · simp at hm
      · have := sizeOf_row hm true
        simp only [List.cons.sizeOf_spec] at hN
        omega
    refine (hkids.and (Ev.ge (rows.length + 1))).succ fun k hk H => ?_
    obtain ⟨hkid, hge⟩ := hk
    obtain ⟨v, e1, rfl⟩ := call_pure (P := Tryz.prog) (cfg := cfgD) (k := k) (H := H) (f := 21) (args := [.agg [.int .i64 o, .str s, .int .i64 q, x, .int .i64 p], .agg [.int .i64 o, .str s, .int .i64 q, x, .int .i64 p]]) (R := fun v => v = .bool true) rfl rfl rfl Tryz.func21 rfl b21 (by rw [nt21]; simp) (frz2 (he.aggA (by simp)) (he.aggA (by simp))) (by
      rw [nt21]
      refine rg_seq (rg_region l21_0 ?_)
      refine og_all (fun g' H' => g' 2 = .ptr 0 0 ∧ g' 3 = .ptr 1 0 ∧ H'.get 0 = .row true 38 [.int .i64 o, .str s, .int .i64 q, x, .int .i64 p] ∧ H'.get 1 = .row true 38 [.int .i64 o, .str s, .int .i64 q, x, .int .i64 p]) ?_ ?_
      · refine x_box rfl rfl he.all ?_
        refine x_box rfl rfl he.all ?_
        refine x_assign rfl ?_
        exact og_nil ⟨rfl, rfl, get_push_row (get_push_new _ _), get_push_new _ _⟩
      rintro g H0 ⟨g2, g3, ha, hb⟩
      refine rg_seq (rg_seq (rg_region l21_1 ?_))
      refine og_all (fun g' H' => H' = H0 ∧ g' 2 = .ptr 0 0 ∧ g' 3 = .ptr 1 0 ∧ g' 33 = .bool false) ?_ ?_
      · refine x_fieldAddr (congrArg some g2) fo38_0 ?_
        refine x_load1 rfl ta3 ha (by rfl) ?_
        refine x_fieldAddr (congrArg some g3) fo38_0 ?_
        refine x_load1 rfl ta3 hb (by rfl) ?_
        refine x_bin rfl rfl neqI ?_
        refine x_move rfl ?_
        refine og_want rfl ?_
        refine x_fieldAddr (congrArg some g2) fo38_1 ?_
        refine og_want rfl ?_
        refine x_load1 rfl ta9 ha (by rfl) ?_
        refine og_want rfl ?_
        refine x_fieldAddr (congrArg some g3) fo38_1 ?_
        refine og_want rfl ?_
        refine x_load1 rfl ta9 hb (by rfl) ?_
        refine og_want rfl ?_
        refine x_bin rfl rfl neqS ?_
        refine x_pickF rfl rfl ?_
        refine x_move rfl ?_
        refine og_want rfl ?_
        refine x_fieldAddr (congrArg some g2) fo38_2 ?_
        refine og_want rfl ?_
        refine x_load1 rfl ta2 ha (by rfl) ?_
        refine og_want rfl ?_
        refine x_fieldAddr (congrArg some g3) fo38_2 ?_
        refine og_want rfl ?_
        refine x_load1 rfl ta2 hb (by rfl) ?_
        refine og_want rfl ?_
        refine x_bin rfl rfl neqI ?_
        refine x_pickF rfl rfl ?_
        refine x_move rfl ?_
        refine og_want rfl ?_
        refine x_fieldAddr (congrArg some g2) fo38_3 ?_
        refine og_want rfl ?_
        refine x_load1 rfl ta36 ha (by rfl) ?_
        refine og_want rfl ?_
        refine x_len (evsC rfl evs0) rfl rfl (len_sl un36 (by assumption)) ?_
        refine og_want rfl ?_
        refine x_fieldAddr (congrArg some g3) fo38_3 ?_
        refine og_want rfl ?_
        refine x_load1 rfl ta36 hb (by rfl) ?_
        refine og_want rfl ?_
        refine x_len (evsC rfl evs0) rfl rfl (len_sl un36 (by assumption)) ?_
        refine og_want rfl ?_
        refine x_bin rfl rfl neqI ?_
        refine x_pickF rfl rfl ?_
        exact og_nil ⟨rfl, g2, g3, rfl⟩
      rintro g H0 ⟨rfl, g2, g3, g33⟩
      refine rg_cond (congrArg some g33) (fun h => by cases h) (fun _ => rg_skip ?_)
      refine rg_seq (rg_seq (rg_region l21_3 ?_))
      refine x_assign rfl ?_
      refine og_nil ?_
      refine rg_block (rg_loop (fun z g H => ∃ i : Nat, g 2 = .ptr 0 0 ∧ g 3 = .ptr 1 0 ∧ H = H0 ∧ g 5 = .int .i64 i ∧ i ≤ rows.length ∧ z = rows.length - i) (m := rows.length) (by omega) ⟨0, g2, g3, rfl, rfl, Nat.zero_le _, rfl⟩ ?_)
      rintro z g H ⟨i, g2, g3, rfl, g5, hi, rfl⟩
      refine rg_seq (rg_seq (rg_region l21_4 ?_))
      refine og_all (fun g' H' => H' = H ∧ g' 2 = .ptr 0 0 ∧ g' 3 = .ptr 1 0 ∧ g' 5 = .int .i64 i ∧ g' 38 = .bool (decide ((i : Int) < (rows.length : Int)))) ?_ ?_
      · refine x_move (congrArg some g5) ?_
        refine x_fieldAddr (congrArg some g2) fo38_3 ?_
        refine x_load1 rfl ta36 ha (by rfl) ?_
        refine x_len (evsC rfl evs0) rfl rfl (len_sl un36 (by assumption)) ?_
        refine x_bin rfl rfl rfl ?_
        exact og_nil ⟨rfl, g2, g3, g5, rfl⟩
      rintro g H' ⟨rfl, g2, g3, g5, g38⟩
      refine rg_cond (congrArg some g38) (fun hc => rg_skip ?_) (fun _ => rg_exit ?_)
      · have hil : i < rows.length := by have := of_decide_eq_true hc; omega
        obtain ⟨r, hri⟩ : ∃ r, rows[i]? = some r := ⟨rows[i], List.getElem?_eq_getElem hil⟩
        have hrm : r ∈ rows := List.mem_of_getElem? hri
        have hxi : x = .isl true rows := by
          rcases hx with ⟨rfl, rfl⟩ | rfl
          · simp at hil
          · rfl
        subst hxi
        have hl5 : r.length = 5 := by rw [hrl r hrm, co38]
        have hkr := hkid r hrm H'
        refine rg_seq (rg_block (rg_seq (rg_draw n21_5 l21_5 ?_)))
        refine og_all (fun g' H2 => H2 = H' ∧ g' 2 = .ptr 0 0 ∧ g' 3 = .ptr 1 0 ∧ g' 5 = .int .i64 i ∧ g' 52 = .bool false) ?_ ?_
        · refine x_fieldAddr (congrArg some g2) fo38_3 ?_
          refine x_load1 rfl ta36 ha (by rfl) ?_
          refine x_move (congrArg some g5) ?_
          refine x_indexAddrI rfl rfl ix36 hri hl5 ?_
          refine x_loadNE rfl ta38 ts38 (r := r) (by rw [List.drop_zero, List.take_of_length_le (by rw [hl5]; exact Nat.le_refl _)]) hl5 ?_
          refine x_fieldAddr (congrArg some g3) fo38_3 ?_
          refine x_load1 rfl ta36 hb (by rfl) ?_
          refine x_move (congrArg some g5) ?_
          refine x_indexAddrI rfl rfl ix36 hri hl5 ?_
          refine x_loadNE rfl ta38 ts38 (r := r) (by rw [List.drop_zero, List.take_of_length_le (by rw [hl5]; exact Nat.le_refl _)]) hl5 ?_
          refine x_call (evsC rfl (evsC rfl evs0)) rfl hkr ?_
          refine x_un rfl rfl ?_
          exact og_nil ⟨rfl, g2, g3, g5, rfl⟩
        rintro g H2 ⟨rfl, g2, g3, g5, g52⟩
        refine rg_cond (congrArg some g52) (fun h => by cases h) (fun _ => rg_skip ?_)
        refine rg_region l21_7 ?_
        refine x_move (congrArg some g5) ?_
        refine x_inc rfl (by omega) ?_
        refine x_assign rfl ?_
        exact og_nil ⟨rows.length - (i + 1), by omega, i + 1, g2, g3, rfl, rfl, by omega, rfl⟩
      · show RG _ _ _ _ _ _ _ _
        refine rg_seq (rg_region l21_8 ?_)
        refine x_assign rfl ?_
        exact og_nil (rg_ret (res_tmpF rs21 rfl (frz_bool _ _ _) rfl)))
    exact e1
theorem eq63 {r : List AV} (h : HasT Tryz.prog 63 r) : eqA Tryz.prog eqDepth 63 (.agg r) (.agg r) = some true := by
  obtain ⟨a0, r0, rfl, h0, a1, r1, rfl, h1, a2, r2, rfl, h2, rfl⟩ := h.fields un63 ft63
  obtain ⟨v0, rfl, -⟩ := h0.str_inv un9
  obtain ⟨v1, rfl, -⟩ := h1.int_inv un3
  obtain ⟨v2, rfl, -⟩ := h2.int_inv un2
  simp only [List.append_nil, List.cons_append, List.nil_append]
  refine eqA_struct (d := 59) un63 sh63 fp63 fun p hp => ?_
  simp only [List.mem_cons, List.not_mem_nil, or_false] at hp
  rcases hp with rfl | rfl | rfl
  · exact ⟨_, (part1 ta9).trans rfl, eqA_str un9⟩
  · exact ⟨_, (part1 ta3).trans rfl, eqA_int un3⟩
  · exact ⟨_, (part1 ta2).trans rfl, eqA_int un2⟩
theorem eq65 {r : List AV} (h : HasT Tryz.prog 65 r) : eqA Tryz.prog eqDepth 65 (.agg r) (.agg r) = some true := by
  obtain ⟨a0, r0, rfl, h0, a1, r1, rfl, h1, a2, r2, rfl, h2, rfl⟩ := h.fields un65 ft65
  obtain ⟨v0, rfl, -⟩ := h0.str_inv un9
  obtain ⟨v1, rfl, -⟩ := h1.int_inv un2
  obtain ⟨v2, rfl, -⟩ := h2.int_inv un3
  simp only [List.append_nil, List.cons_append, List.nil_append]
  refine eqA_struct (d := 59) un65 sh65 fp65 fun p hp => ?_
  simp only [List.mem_cons, List.not_mem_nil, or_false] at hp
  rcases hp with rfl | rfl | rfl
  · exact ⟨_, (part1 ta9).trans rfl, eqA_str un9⟩
  · exact ⟨_, (part1 ta2).trans rfl, eqA_int un2⟩
  · exact ⟨_, (part1 ta3).trans rfl, eqA_int un3⟩
theorem eq57 {r : List AV} (h : HasT Tryz.prog 57 r) : eqA Tryz.prog eqDepth 57 (.agg r) (.agg r) = some true := by
  obtain ⟨a0, r0, rfl, h0, a1, r1, rfl, h1, a2, r2, rfl, h2, a3, r3, rfl, h3, a4, r4, rfl, h4, a5, r5, rfl, h5, a6, r6, rfl, h6, a7, r7, rfl, h7, a8, r8, rfl, h8, a9, r9, rfl, h9, rfl⟩ := h.fields un57 ft57
  obtain ⟨v0, rfl, -⟩ := h0.str_inv un9
  obtain ⟨v1, rfl, -⟩ := h1.int_inv un3
  obtain ⟨v2, rfl, -⟩ := h2.int_inv un2
  obtain ⟨v3, rfl, -⟩ := h3.int_inv un2
  obtain ⟨v4, rfl, -⟩ := h4.int_inv un2
  obtain ⟨v5, rfl, -⟩ := h5.int_inv un3
  obtain ⟨v6, rfl, -⟩ := h6.int_inv un3
  obtain ⟨v7, rfl, -⟩ := h7.int_inv un3
  obtain ⟨v8, rfl, -⟩ := h8.int_inv un2
  obtain ⟨v9, rfl, -⟩ := h9.int_inv un2
  simp only [List.append_nil, List.cons_append, List.nil_append]
  refine eqA_struct (d := 59) un57 sh57 fp57 fun p hp => ?_
  simp only [List.mem_cons, List.not_mem_nil, or_false] at hp
  rcases hp with rfl | rfl | rfl | rfl | rfl | rfl | rfl | rfl | rfl | rfl
  · exact ⟨_, (part1 ta9).trans rfl, eqA_str un9⟩
  · exact ⟨_, (part1 ta3).trans rfl, eqA_int un3⟩
  · exact ⟨_, (part1 ta2).trans rfl, eqA_int un2⟩
  · exact ⟨_, (part1 ta2).trans rfl, eqA_int un2⟩
  · exact ⟨_, (part1 ta2).trans rfl, eqA_int un2⟩
  · exact ⟨_, (part1 ta3).trans rfl, eqA_int un3⟩
  · exact ⟨_, (part1 ta3).trans rfl, eqA_int un3⟩
  · exact ⟨_, (part1 ta3).trans rfl, eqA_int un3⟩
  · exact ⟨_, (part1 ta2).trans rfl, eqA_int un2⟩
  · exact ⟨_, (part1 ta2).trans rfl, eqA_int un2⟩
theorem same15 {c : List AV} (hc : HasT Tryz.prog 40 c) : Ev fun k => ∀ H : Heap, callN Tryz.prog cfgD k 9 [.agg c, .agg c] H = some (.ret (.bool true), H) := by
  obtain ⟨a0, r0, rfl, h0, a1, r1, rfl, h1, a2, r2, rfl, h2, a3, r3, rfl, h3, a4, r4, rfl, h4, a5, r5, rfl, h5, a6, r6, rfl, h6, a7, r7, rfl, he, rfl⟩ := hc.fields un40 ft40
  have hexp := equal12 _ _ (Nat.lt_succ_self _) he
  obtain ⟨nm, rfl, -⟩ := h0.str_inv un9
  obtain ⟨i1, rfl, -⟩ := h1.int_inv un3
  obtain ⟨i2, rfl, -⟩ := h2.int_inv un3
  obtain ⟨i3, rfl, -⟩ := h3.int_inv un2
  obtain ⟨x4, w4, rfl, s4, hx4, hr4, hl4, hm4⟩ := h4.sl_inv un33
  obtain ⟨x5, w5, rfl, s5, hx5, hr5, hl5, hm5⟩ := h5.sl_inv un34
  obtain ⟨x6, w6, rfl, s6, hx6, hr6, hl6, hm6⟩ := h6.sl_inv un35
  obtain ⟨a0, r0, rfl, h0, a1, r1, rfl, h1, a2, r2, rfl, h2, a3, r3, rfl, h3, a4, r4, rfl, h4, rfl⟩ := he.fields un38 ft38
  obtain ⟨o, rfl, -⟩ := h0.int_inv un3
  obtain ⟨s, rfl, -⟩ := h1.str_inv un9
  obtain ⟨q, rfl, -⟩ := h2.int_inv un2
  obtain ⟨x, rows, rfl, sx, -⟩ := h3.sl_inv un36
  obtain ⟨p, rfl, -⟩ := h4.int_inv un3
  simp only [List.append_nil, List.cons_append, List.nil_append] at hc hexp ⊢
  clear h0 h1 h2 h3 h4 he
  refine (hexp.and ((Ev.ge (w4.length + 1)).and ((Ev.ge (w5.length + 1)).and (Ev.ge (w6.length + 1))))).succ fun k hk H => ?_
  obtain ⟨hexp, hg4, hg5, hg6⟩ := hk
  obtain ⟨v, e1, rfl⟩ := call_pure (P := Tryz.prog) (cfg := cfgD) (k := k) (H := H) (f := 9) (args := [.agg [.str nm, .int .i64 i1, .int .i64 i2, .int .i64 i3, x4, x5, x6, .int .i64 o, .str s, .int .i64 q, x, .int .i64 p], .agg [.str nm, .int .i64 i1, .int .i64 i2, .int .i64 i3, x4, x5, x6, .int .i64 o, .str s, .int .i64 q, x, .int .i64 p]]) (R := fun v => v = .bool true) rfl rfl rfl Tryz.func9 rfl b9 (by rw [nt9]; simp) (frz2 (hc.aggA (by simp)) (hc.aggA (by simp))) (by
    rw [nt9]
    refine rg_seq (rg_region l9_0 ?_)
    refine og_all (fun g' H' => g' 2 = .ptr 0 0 ∧ g' 3 = .ptr 1 0 ∧ H'.get 0 = .row true 40 [.str nm, .int .i64 i1, .int .i64 i2, .int .i64 i3, x4, x5, x6, .int .i64 o, .str s, .int .i64 q, x, .int .i64 p] ∧ H'.get 1 = .row true 40 [.str nm, .int .i64 i1, .int .i64 i2, .int .i64 i3, x4, x5, x6, .int .i64 o, .str s, .int .i64 q, x, .int .i64 p]) ?_ ?_
    · refine x_box rfl rfl hc.all ?_
      refine x_box rfl rfl hc.all ?_
      refine x_assign rfl ?_
      exact og_nil ⟨rfl, rfl, get_push_row (get_push_new _ _), get_push_new _ _⟩
    rintro g H0 ⟨g2, g3, ha, hb⟩
    have hcall := hexp H0
    refine rg_seq (rg_seq (rg_region l9_1 ?_))
    refine og_all (fun g' H' => H' = H0 ∧ g' 2 = .ptr 0 0 ∧ g' 3 = .ptr 1 0 ∧ g' 41 = .bool false) ?_ ?_
    · refine x_fieldAddr (congrArg some g2) fo40_0 ?_
      refine x_load1 rfl ta9 ha (by rfl) ?_
      refine x_fieldAddr (congrArg some g3) fo40_0 ?_
      refine x_load1 rfl ta9 hb (by rfl) ?_
      refine x_bin rfl rfl neqS ?_
      refine x_move rfl ?_
      refine og_want rfl ?_
      refine x_fieldAddr (congrArg some g2) fo40_1 ?_
      refine og_want rfl ?_
      refine x_load1 rfl ta3 ha (by rfl) ?_
      refine og_want rfl ?_
      refine x_fieldAddr (congrArg some g3) fo40_1 ?_
      refine og_want rfl ?_
      refine x_load1 rfl ta3 hb (by rfl) ?_
      refine og_want rfl ?_
      refine x_bin rfl rfl neqI ?_
      refine x_pickF rfl rfl ?_
      refine x_move rfl ?_
      refine og_want rfl ?_
      refine x_fieldAddr (congrArg some g2) fo40_2 ?_
      refine og_want rfl ?_
      refine x_load1 rfl ta3 ha (by rfl) ?_
      refine og_want rfl ?_
      refine x_fieldAddr (congrArg some g3) fo40_2 ?_
      refine og_want rfl ?_
      refine x_load1 rfl ta3 hb (by rfl) ?_
      refine og_want rfl ?_
      refine x_bin rfl rfl neqI ?_
      refine x_pickF rfl rfl ?_
      refine x_move rfl ?_
      refine og_want rfl ?_
      refine x_fieldAddr (congrArg some g2) fo40_3 ?_
      refine og_want rfl ?_
      refine x_load1 rfl ta2 ha (by rfl) ?_
      refine og_want rfl ?_
      refine x_fieldAddr (congrArg some g3) fo40_3 ?_
      refine og_want rfl ?_
      refine x_load1 rfl ta2 hb (by rfl) ?_
      refine og_want rfl ?_
      refine x_bin rfl rfl neqI ?_
      refine x_pickF rfl rfl ?_
      refine x_move rfl ?_
      refine og_want rfl ?_
      refine x_fieldAddr (congrArg some g2) fo40_7 ?_
      refine og_want rfl ?_
      refine x_loadN rfl ta38 ts38 ha rfl rfl ?_
      refine og_want rfl ?_
      refine x_fieldAddr (congrArg some g3) fo40_7 ?_
      refine og_want rfl ?_
      refine x_loadN rfl ta38 ts38 hb rfl rfl ?_
      refine og_want rfl ?_
      refine x_call (evsC rfl (evsC rfl evs0)) rfl hcall ?_
      refine og_want rfl ?_
      refine x_un rfl rfl ?_
      refine x_pickF rfl rfl ?_
      exact og_nil ⟨rfl, g2, g3, rfl⟩
    rintro g H0 ⟨rfl, g2, g3, g41⟩
    refine rg_cond (congrArg some g41) (fun h => by cases h) (fun _ => rg_skip ?_)
    refine rg_seq (rg_seq (rg_region l9_3 ?_))
    refine og_all (fun g' H' => H' = H0 ∧ g' 2 = .ptr 0 0 ∧ g' 3 = .ptr 1 0 ∧ g' 66 = .bool false) ?_ ?_
    · refine x_fieldAddr (congrArg some g2) fo40_4 ?_
      refine x_load1 rfl ta33 ha (by rfl) ?_
      refine x_len (evsC rfl evs0) rfl rfl (len_sl un33 (by assumption)) ?_
      refine x_fieldAddr (congrArg some g3) fo40_4 ?_
      refine x_load1 rfl ta33 hb (by rfl) ?_
      refine x_len (evsC rfl evs0) rfl rfl (len_sl un33 (by assumption)) ?_
      refine x_bin rfl rfl neqI ?_
      refine x_move rfl ?_
      refine og_want rfl ?_
      refine x_fieldAddr (congrArg some g2) fo40_5 ?_
      refine og_want rfl ?_
      refine x_load1 rfl ta34 ha (by rfl) ?_
      refine og_want rfl ?_
      refine x_len (evsC rfl evs0) rfl rfl (len_sl un34 (by assumption)) ?_
      refine og_want rfl ?_
      refine x_fieldAddr (congrArg some g3) fo40_5 ?_
      refine og_want rfl ?_
      refine x_load1 rfl ta34 hb (by rfl) ?_
      refine og_want rfl ?_
      refine x_len (evsC rfl evs0) rfl rfl (len_sl un34 (by assumption)) ?_
      refine og_want rfl ?_
      refine x_bin rfl rfl neqI ?_
      refine x_pickF rfl rfl ?_
      refine x_move rfl ?_
      refine og_want rfl ?_
      refine x_fieldAddr (congrArg some g2) fo40_6 ?_
      refine og_want rfl ?_
      refine x_load1 rfl ta35 ha (by rfl) ?_
      refine og_want rfl ?_
      refine x_len (evsC rfl evs0) rfl rfl (len_sl un35 (by assumption)) ?_
      refine og_want rfl ?_
      refine x_fieldAddr (congrArg some g3) fo40_6 ?_
      refine og_want rfl ?_
      refine x_load1 rfl ta35 hb (by rfl) ?_
      refine og_want rfl ?_
      refine x_len (evsC rfl evs0) rfl rfl (len_sl un35 (by assumption)) ?_
      refine og_want rfl ?_
      refine x_bin rfl rfl neqI ?_
      refine x_pickF rfl rfl ?_
      exact og_nil ⟨rfl, g2, g3, rfl⟩
    rintro g H0 ⟨rfl, g2, g3, g66⟩
    refine rg_cond (congrArg some g66) (fun h => by cases h) (fun _ => rg_skip ?_)
    refine rg_seq (rg_seq (rg_region l9_5 ?_))
    refine x_assign rfl ?_
    refine og_nil ?_
    refine rg_block (rg_loop (fun z g H => ∃ i : Nat, g 2 = .ptr 0 0 ∧ g 3 = .ptr 1 0 ∧ H0 = H ∧ g 5 = .int .i64 i ∧ i ≤ w4.length ∧ z = w4.length - i) (m := w4.length) (by omega) ⟨0, g2, g3, rfl, rfl, Nat.zero_le _, rfl⟩ ?_)
    rintro z g H ⟨i, g2, g3, rfl, gi, hi, rfl⟩
    refine rg_seq (rg_seq (rg_region l9_6 ?_))
    refine og_all (fun g' H' => H0 = H' ∧ g' 2 = .ptr 0 0 ∧ g' 3 = .ptr 1 0 ∧ g' 5 = .int .i64 i ∧ g' 71 = .bool (decide ((i : Int) < (w4.length : Int)))) ?_ ?_
    · refine x_move (congrArg some gi) ?_
      refine x_fieldAddr (congrArg some g2) fo40_4 ?_
      refine x_load1 rfl ta33 ha (by rfl) ?_
      refine x_len (evsC rfl evs0) rfl rfl (len_sl un33 (by assumption)) ?_
      refine x_bin rfl rfl rfl ?_
      exact og_nil ⟨rfl, g2, g3, gi, rfl⟩
    rintro g H' ⟨rfl, g2, g3, gi, gb⟩
    refine rg_cond (congrArg some gb) (fun hc => rg_skip ?_) (fun _ => rg_exit ?_)
    · have hil : i < w4.length := by have := of_decide_eq_true hc; omega
      obtain ⟨r, hri⟩ : ∃ r, w4[i]? = some r := ⟨w4[i], List.getElem?_eq_getElem hil⟩
      have hrm : r ∈ w4 := List.mem_of_getElem? hri
      have hxi : x4 = .isl true w4 := by
        rcases hx4 with ⟨rfl, rfl⟩ | rfl
        · simp at hil
        · rfl
      subst hxi
      have hlr : r.length = 3 := by rw [hl4 r hrm, co63]
      refine rg_seq (rg_block (rg_seq (rg_draw n9_7 l9_7 ?_)))
      refine og_all (fun g' H2 => H0 = H2 ∧ g' 2 = .ptr 0 0 ∧ g' 3 = .ptr 1 0 ∧ g' 5 = .int .i64 i ∧ g' 84 = .bool false) ?_ ?_
      · refine x_fieldAddr (congrArg some g2) fo40_4 ?_
        refine x_load1 rfl ta33 ha (by rfl) ?_
        refine x_move (congrArg some gi) ?_
        refine x_indexAddrI rfl rfl ix33 hri hlr ?_
        refine x_loadNE rfl ta63 ts63 (r := r) (by rw [List.drop_zero, List.take_of_length_le (by rw [hlr]; exact Nat.le_refl _)]) hlr ?_
        refine x_fieldAddr (congrArg some g3) fo40_4 ?_
        refine x_load1 rfl ta33 hb (by rfl) ?_
        refine x_move (congrArg some gi) ?_
        refine x_indexAddrI rfl rfl ix33 hri hlr ?_
        refine x_loadNE rfl ta63 ts63 (r := r) (by rw [List.drop_zero, List.take_of_length_le (by rw [hlr]; exact Nat.le_refl _)]) hlr ?_
        refine x_bin rfl rfl (neqAgg eg63 (eq63 (hr4 r hrm))) ?_
        exact og_nil ⟨rfl, g2, g3, gi, rfl⟩
      rintro g H2 ⟨rfl, g2, g3, gi, gn⟩
      refine rg_cond (congrArg some gn) (fun h => by cases h) (fun _ => rg_skip ?_)
      refine rg_region l9_9 ?_
      refine x_move (congrArg some gi) ?_
      refine x_inc rfl (by omega) ?_
      refine x_assign rfl ?_
      exact og_nil ⟨w4.length - (i + 1), by omega, i + 1, g2, g3, rfl, rfl, by omega, rfl⟩
    show RG _ _ _ _ _ _ _ _
    refine rg_seq (rg_seq (rg_region l9_10 ?_))
    refine x_assign rfl ?_
    refine og_nil ?_
    refine rg_block (rg_loop (fun z g H => ∃ i : Nat, g 2 = .ptr 0 0 ∧ g 3 = .ptr 1 0 ∧ H0 = H ∧ g 6 = .int .i64 i ∧ i ≤ w5.length ∧ z = w5.length - i) (m := w5.length) (by omega) ⟨0, g2, g3, rfl, rfl, Nat.zero_le _, rfl⟩ ?_)
    rintro z g H ⟨i, g2, g3, rfl, gi, hi, rfl⟩
    refine rg_seq (rg_seq (rg_region l9_11 ?_))
    refine og_all (fun g' H' => H0 = H' ∧ g' 2 = .ptr 0 0 ∧ g' 3 = .ptr 1 0 ∧ g' 6 = .int .i64 i ∧ g' 89 = .bool (decide ((i : Int) < (w5.length : Int)))) ?_ ?_
    · refine x_move (congrArg some gi) ?_
      refine x_fieldAddr (congrArg some g2) fo40_5 ?_
      refine x_load1 rfl ta34 ha (by rfl) ?_
      refine x_len (evsC rfl evs0) rfl rfl (len_sl un34 (by assumption)) ?_
      refine x_bin rfl rfl rfl ?_
      exact og_nil ⟨rfl, g2, g3, gi, rfl⟩
    rintro g H' ⟨rfl, g2, g3, gi, gb⟩
    refine rg_cond (congrArg some gb) (fun hc => rg_skip ?_) (fun _ => rg_exit ?_)
    · have hil : i < w5.length := by have := of_decide_eq_true hc; omega
      obtain ⟨r, hri⟩ : ∃ r, w5[i]? = some r := ⟨w5[i], List.getElem?_eq_getElem hil⟩
      have hrm : r ∈ w5 := List.mem_of_getElem? hri
      have hxi : x5 = .isl true w5 := by
        rcases hx5 with ⟨rfl, rfl⟩ | rfl
        · simp at hil
        · rfl
      subst hxi
      have hlr : r.length = 3 := by rw [hl5 r hrm, co65]
      refine rg_seq (rg_block (rg_seq (rg_draw n9_12 l9_12 ?_)))
      refine og_all (fun g' H2 => H0 = H2 ∧ g' 2 = .ptr 0 0 ∧ g' 3 = .ptr 1 0 ∧ g' 6 = .int .i64 i ∧ g' 102 = .bool false) ?_ ?_
      · refine x_fieldAddr (congrArg some g2) fo40_5 ?_
        refine x_load1 rfl ta34 ha (by rfl) ?_
        refine x_move (congrArg some gi) ?_
        refine x_indexAddrI rfl rfl ix34 hri hlr ?_
        refine x_loadNE rfl ta65 ts65 (r := r) (by rw [List.drop_zero, List.take_of_length_le (by rw [hlr]; exact Nat.le_refl _)]) hlr ?_
        refine x_fieldAddr (congrArg some g3) fo40_5 ?_
        refine x_load1 rfl ta34 hb (by rfl) ?_
        refine x_move (congrArg some gi) ?_
        refine x_indexAddrI rfl rfl ix34 hri hlr ?_
        refine x_loadNE rfl ta65 ts65 (r := r) (by rw [List.drop_zero, List.take_of_length_le (by rw [hlr]; exact Nat.le_refl _)]) hlr ?_
        refine x_bin rfl rfl (neqAgg eg65 (eq65 (hr5 r hrm))) ?_
        exact og_nil ⟨rfl, g2, g3, gi, rfl⟩
      rintro g H2 ⟨rfl, g2, g3, gi, gn⟩
      refine rg_cond (congrArg some gn) (fun h => by cases h) (fun _ => rg_skip ?_)
      refine rg_region l9_14 ?_
      refine x_move (congrArg some gi) ?_
      refine x_inc rfl (by omega) ?_
      refine x_assign rfl ?_
      exact og_nil ⟨w5.length - (i + 1), by omega, i + 1, g2, g3, rfl, rfl, by omega, rfl⟩
    show RG _ _ _ _ _ _ _ _
    refine rg_seq (rg_seq (rg_region l9_15 ?_))
    refine x_assign rfl ?_
    refine og_nil ?_
    refine rg_block (rg_loop (fun z g H => ∃ i : Nat, g 2 = .ptr 0 0 ∧ g 3 = .ptr 1 0 ∧ H0 = H ∧ g 7 = .int .i64 i ∧ i ≤ w6.length ∧ z = w6.length - i) (m := w6.length) (by omega) ⟨0, g2, g3, rfl, rfl, Nat.zero_le _, rfl⟩ ?_)
    rintro z g H ⟨i, g2, g3, rfl, gi, hi, rfl⟩
    refine rg_seq (rg_seq (rg_region l9_16 ?_))
    refine og_all (fun g' H' => H0 = H' ∧ g' 2 = .ptr 0 0 ∧ g' 3 = .ptr 1 0 ∧ g' 7 = .int .i64 i ∧ g' 107 = .bool (decide ((i : Int) < (w6.length : Int)))) ?_ ?_
    · refine x_move (congrArg some gi) ?_
      refine x_fieldAddr (congrArg some g2) fo40_6 ?_
      refine x_load1 rfl ta35 ha (by rfl) ?_
      refine x_len (evsC rfl evs0) rfl rfl (len_sl un35 (by assumption)) ?_
      refine x_bin rfl rfl rfl ?_
      exact og_nil ⟨rfl, g2, g3, gi, rfl⟩
    rintro g H' ⟨rfl, g2, g3, gi, gb⟩
    refine rg_cond (congrArg some gb) (fun hc => rg_skip ?_) (fun _ => rg_exit ?_)
    · have hil : i < w6.length := by have := of_decide_eq_true hc; omega
      obtain ⟨r, hri⟩ : ∃ r, w6[i]? = some r := ⟨w6[i], List.getElem?_eq_getElem hil⟩
      have hrm : r ∈ w6 := List.mem_of_getElem? hri
      have hxi : x6 = .isl true w6 := by
        rcases hx6 with ⟨rfl, rfl⟩ | rfl
        · simp at hil
        · rfl
      subst hxi
      have hlr : r.length = 10 := by rw [hl6 r hrm, co57]
      refine rg_seq (rg_block (rg_seq (rg_draw n9_17 l9_17 ?_)))
      refine og_all (fun g' H2 => H0 = H2 ∧ g' 2 = .ptr 0 0 ∧ g' 3 = .ptr 1 0 ∧ g' 7 = .int .i64 i ∧ g' 120 = .bool false) ?_ ?_
      · refine x_fieldAddr (congrArg some g2) fo40_6 ?_
        refine x_load1 rfl ta35 ha (by rfl) ?_
        refine x_move (congrArg some gi) ?_
        refine x_indexAddrI rfl rfl ix35 hri hlr ?_
        refine x_loadNE rfl ta57 ts57 (r := r) (by rw [List.drop_zero, List.take_of_length_le (by rw [hlr]; exact Nat.le_refl _)]) hlr ?_
        refine x_fieldAddr (congrArg some g3) fo40_6 ?_
        refine x_load1 rfl ta35 hb (by rfl) ?_
        refine x_move (congrArg some gi) ?_
        refine x_indexAddrI rfl rfl ix35 hri hlr ?_
        refine x_loadNE rfl ta57 ts57 (r := r) (by rw [List.drop_zero, List.take_of_length_le (by rw [hlr]; exact Nat.le_refl _)]) hlr ?_
        refine x_bin rfl rfl (neqAgg eg57 (eq57 (hr6 r hrm))) ?_
        exact og_nil ⟨rfl, g2, g3, gi, rfl⟩
      rintro g H2 ⟨rfl, g2, g3, gi, gn⟩
      refine rg_cond (congrArg some gn) (fun h => by cases h) (fun _ => rg_skip ?_)
      refine rg_region l9_19 ?_
      refine x_move (congrArg some gi) ?_
      refine x_inc rfl (by omega) ?_
      refine x_assign rfl ?_
      exact og_nil ⟨w6.length - (i + 1), by omega, i + 1, g2, g3, rfl, rfl, by omega, rfl⟩
    show RG _ _ _ _ _ _ _ _
    refine rg_seq (rg_region l9_20 ?_)
    refine x_assign rfl ?_
    exact og_nil (rg_ret (res_tmpF rs9 rfl (frz_bool _ _ _) rfl)))
  exact e1
end Go.Proofs.YthmmpnkmjbfimaaGreatDoor
