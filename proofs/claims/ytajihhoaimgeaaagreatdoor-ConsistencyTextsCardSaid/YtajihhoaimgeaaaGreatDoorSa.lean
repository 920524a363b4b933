/- The abstract machine: summaries of functions that have no body, and of strings.Fields. -/
import Derived.Test.YtajihhoaimgeaaaGreatDoorAe
import Derived.Test.YtajihhoaimgeaaaGreatDoorFb
import Derived.Lib.Bytealg
import Derived.Lib.Builder
import Derived.Shelf.Strings.Fields
import Derived.Shelf.Strconv.Itoa4
set_option linter.unusedVariables false
set_option linter.unusedSimpArgs false
set_option linter.unusedSectionVars false
set_option linter.unnecessarySimpa false
namespace Go.Ab
set_option linter.unusedVariables false
set_option linter.unusedSectionVars false
variable [HasBase]
variable {P : Program}

/-- One function's summary. -/
def SumOK (P : Program) (f : FuncId) (s : List AV → Heap → Option (CR × Heap)) : Prop :=
  ∀ args H r H', s args H = some (r, H') → H.wf → H'.wf ∧ H.n ≤ H'.n ∧
    ∀ (E : Env) (vs : Array Value), VL E args vs.toList → Sat E H.get → Fresh E H.n H'.n →
      Invokes P f vs E.w fun e w' => ∃ E', E'.w = w' ∧ Ext E E' H.n H'.n ∧ Sat E' H'.get ∧ EndR E' r e

theorem sum_nil : CallOK P (fun _ _ _ => none) := by intro f args H r H' h; cases h
theorem sum_no (f : FuncId) : SumOK P f (fun _ _ => none) := by intro args H r H' h; cases h
/-- One function's summary ahead of others. -/
theorem sum_cons {g : FuncId} {s : List AV → Heap → Option (CR × Heap)} {rest : CallFn} (hs : SumOK P g s) (hr : CallOK P rest) : CallOK P (fun f => selA (Nat.beq f g) s (rest f)) := by
  intro f args H r H' h hw
  cases hb : Nat.beq f g with
  | true =>
    have := Nat.eq_of_beq_eq_true hb
    subst this
    have h : selA (Nat.beq f f) s (rest f) args H = some (r, H') := h
    rw [hb] at h
    exact hs args H r H' h hw
  | false =>
    have h : selA (Nat.beq f g) s (rest f) args H = some (r, H') := h
    rw [hb] at h
    exact hr f args H r H' h hw

/-- A function that leaves the world alone and gives a value now. -/
theorem sum_ext {f : FuncId} {fn : Func} {e : Array Value → Sem Value} (hf : P.funcs[f]? = some fn) (hname : (fn.name == "runtime.NumGoroutine") = false) (hb : fn.body.isNone = true) (hn : Extern.findNext fn = none) (he : Extern.find fn = some e)
    {s : List AV → Heap → Option (CR × Heap)}
    (hs : ∀ args H r H', s args H = some (r, H') → H' = H ∧ ∃ x, r = .ret x ∧ ∀ (E : Env) (vs : Array Value), VL E args vs.toList → ∃ v, (e vs).run P E.w = .ok v E.w ∧ V E x v) : SumOK P f s := by
  intro args H r H' h hw
  obtain ⟨rfl, x, rfl, hx⟩ := hs args H r H' h
  refine ⟨hw, Nat.le_refl _, fun E vs hvs hsat hfr => ?_⟩
  obtain ⟨v, h1, h2⟩ := hx E vs hvs
  refine .inl ⟨v, E.w, ?_, E, rfl, Ext.refl E _, hsat, v, rfl, h2⟩
  rw [run_callFunc_extern hf hname hb hn he, h1]
  rfl

theorem V.str_inv2 {E : Env} {l : List UInt8} {v : Value} (h : V E (.str l) v) : ∃ s, v = .string s ∧ s.data.toList = l := by
  cases h; exact ⟨_, rfl, by assumption⟩
theorem V.int_inv' {E : Env} {k : IntKind} {n : Int} {v : Value} (h : V E (.int k n) v) : v = .int k n := by
  cases h; rfl
theorem arr_of_list {α : Type} {a : Array α} {l : List α} (h : a.toList = l) : a = l.toArray := by
  rw [← h]
theorem sIndexByte_ok {f : FuncId} {fn : Func} (hf : P.funcs[f]? = some fn) (hname : (fn.name == "runtime.NumGoroutine") = false) (hb : fn.body.isNone = true) (hn : Extern.findNext fn = none) (he : Extern.find fn = some Extern.BytealgIndexByte.indexByte) : SumOK P f sIndexByte := by
  refine sum_ext hf hname hb hn he fun args H r H' h => ?_
  unfold sIndexByte at h
  split at h <;> try (cases h; done)
  rename_i s c
  cases h
  refine ⟨rfl, _, rfl, fun E vs hvs => ?_⟩
  obtain ⟨v1, us, e1, hv1, hus⟩ := hvs.inv
  obtain ⟨v2, us2, e2, hv2, hus2⟩ := hus.inv
  have e3 := hus2.inv_nil
  obtain ⟨t, rfl, ht⟩ := hv1.str_inv2
  have := hv2.int_inv'
  subst this
  rw [e2, e3] at e1
  have ev := arr_of_list e1
  subst ev
  subst ht
  exact ⟨_, Lib.run_indexByteString t c E.w, .int _ _⟩

theorem sSame_ok {f : FuncId} {fn : Func} (hf : P.funcs[f]? = some fn) (hname : (fn.name == "runtime.NumGoroutine") = false) (hb : fn.body.isNone = true) (hn : Extern.findNext fn = none) (he : Extern.find fn = some Extern.AbiNoEscape.same) : SumOK P f sSame := by
  refine sum_ext hf hname hb hn he fun args H r H' h => ?_
  unfold sSame at h
  split at h <;> try (cases h; done)
  rename_i x
  cases h
  refine ⟨rfl, _, rfl, fun E vs hvs => ?_⟩
  obtain ⟨v1, us, e1, hv1, hus⟩ := hvs.inv
  rw [hus.inv_nil] at e1
  have ev := arr_of_list e1
  subst ev
  exact ⟨v1, Lib.run_noEscape E.w v1, hv1⟩

/-! strings.Fields -/
/-- A new block that nobody writes any more. -/
theorem frozen_new {E : Env} {g : Nat → Ob} (hs : Sat E g) (n : Nat) (o : Obj) :
    Ext E { mu := E.mu, perm := fun b => E.perm b ∨ b = E.w.heap.size, w := E.w.alloc o } n n ∧ Sat { mu := E.mu, perm := fun b => E.perm b ∨ b = E.w.heap.size, w := E.w.alloc o } g := by
  have hext : Ext E { mu := E.mu, perm := fun b => E.perm b ∨ b = E.w.heap.size, w := E.w.alloc o } n n :=
    { le := Nat.le_refl _
      muOut := fun _ _ => rfl
      muNew := fun id b o h1 h2 => absurd h2 (by omega)
      size := by simp
      perm := fun b h => .inl h
      permNew := fun b h => h.elim .inl fun e => .inr (by rw [e]; exact Nat.le_refl _)
      frame := fun b hb _ => alloc'_old _ _ hb
      shape := fun b s h => by rw [← h]; exact shape_of_block (alloc'_old _ _ (shape_lt h))
      os := rfl
      tape := rfl
      output := rfl }
  refine ⟨hext, ?_⟩
  exact
    { muLt := fun id b o' h => by
        have := hs.muLt id b o' h
        simp only [alloc'_size]; omega
      permLt := fun b h => by
        simp only [alloc'_size]
        rcases h with h | rfl
        · have := hs.permLt b h; omega
        · omega
      permOwn := fun b h ⟨id, o', hm⟩ => by
        rcases h with h | rfl
        · exact hs.permOwn b h ⟨id, o', hm⟩
        · have := hs.muLt id _ o' hm; omega
      ob := fun id b o' hm => (hs.ob id b o' hm).mono_of (alloc'_old _ _ (hs.muLt id b o' hm)) fun x v hv => hv.mono hext fun id h1 h2 => absurd h2 (by omega)
      base := hs.keepBase hext
      inj := hs.inj }

theorem flat_single {α β : Type} (f : α → β) : ∀ (l : List α), (l.map fun x => [f x]).flatten = l.map f
  | [] => rfl
  | x :: l => by simp [flat_single f l]

theorem sFields_ok {ρ : Shelf.Ren} (L : Proofs.Lays.n157 P ρ) (hi9 : (P.info? (ρ.t 9)).map (fun i => (i.zero, i.size, i.bytes)) = some (some (.string ByteArray.empty), 1, 16))
    (hrun : ∀ vs w, (callFunc (ρ.f 157) vs).run P w = .ok (.enter (ρ.f 157) vs) w) {tab : Obj} (hB : HasBase.B (ρ.g 0) = some tab)
    (hT : ∀ w : World, w.heap[ρ.g 0]? = some tab → ∀ c : Nat, c < 256 → w.cell? ⟨ρ.g 0, c, none⟩ = some (.int .u8 (if Lib.isSp (UInt8.ofNat c) then 1 else 0))) : SumOK P (ρ.f 157) sFields := by
  intro args H r H' h hw
  unfold sFields at h
  split at h <;> try (cases h; done)
  rename_i s
  split at h <;> try (cases h; done)
  rename_i hk
  cases h
  refine ⟨hw, Nat.le_refl _, fun E vs hvs hsat hfr => .inr ⟨hrun vs E.w, ?_⟩⟩
  rw [Bool.and_eq_true] at hk
  obtain ⟨v1, us, e1, hv1, hus⟩ := hvs.inv
  rw [hus.inv_nil] at e1
  have ev := arr_of_list e1
  subst ev
  obtain ⟨t, rfl, rfl⟩ := hv1.str_inv2
  have hlen : t.data.toList.length + 1 ≤ 4294967281 := Nat.le_of_ble_eq_true hk.2
  have hsz : t.size < 4294967281 := by rw [Lib.size_eq]; omega
  have hasc : ∀ (j : Nat) b, t.data.toList[j]? = some b → b.toNat < 128 := fun j b hb => by
    have h1 := hk.1
    unfold ascii at h1
    rw [List.all_eq_true] at h1
    exact Nat.le_of_ble_eq_true (h1 b (List.mem_of_getElem? hb))
  have hc := Proofs.Any.strings_Fields_core L hi9 t E.w hsz hasc (hT E.w (hsat.base _ _ hB).2)
  refine hc.mono ?_
  rintro e w' ⟨rfl, rfl⟩
  obtain ⟨h1, h2⟩ := frozen_new hsat H.n (.cells ((Lib.fields t.data.toList).map fun l => Value.string ⟨l.toArray⟩).toArray (ρ.t 9))
  refine ⟨_, rfl, h1, h2, _, rfl, ?_⟩
  generalize Lib.fields t.data.toList = F
  have := V.isl (E := { mu := E.mu, perm := fun b => E.perm b ∨ b = E.w.heap.size, w := E.w.alloc (.cells (F.map fun l => Value.string ⟨l.toArray⟩).toArray (ρ.t 9)) }) false (F.map fun l => [.str l]) 1 E.w.heap.size 0 F.length (fun j => (F[j]?).elim undef fun l => Value.string ⟨l.toArray⟩)
    ⟨by simp, fun ⟨id, o, hm⟩ => by have := hsat.muLt id _ o hm; omega, fun _ => .inr rfl⟩
    (fun r hr => by obtain ⟨l, _, rfl⟩ := List.mem_map.1 hr; rfl) (fun r x hr hx => by obtain ⟨l, _, rfl⟩ := List.mem_map.1 hr; simp at hx; subst hx; rfl)
    (fun r x hr hx => by obtain ⟨l, _, rfl⟩ := List.mem_map.1 hr; simp at hx; subst hx; exact .str _ _) (by simp)
    (fun j x hx => by
      rw [flat_single, List.getElem?_map] at hx
      rw [Nat.zero_add]
      cases hj : F[j]? with
      | none => rw [hj] at hx; cases hx
      | some l => rw [World.cell?_alloc_new]; simp [hj])
    (fun j x hx => by
      rw [flat_single, List.getElem?_map] at hx
      cases hj : F[j]? with
      | none => rw [hj] at hx; cases hx
      | some l => rw [hj] at hx; cases hx; exact .str _ _ rfl)
  simpa using this

/-! ### results of calls that the kernel has reckoned -/
theorem tab_ok {c : CallFn} (hc : CallOK P c) {f : FuncId} {args : List AV} {v : AV} {test : List AV → Bool} (ht : ∀ xs, test xs = true → xs = args) (h : ∀ H, c f args H = some (.ret v, H)) : SumOK P f (tabS test v) := by
  intro xs H r H' hr hw
  unfold tabS at hr
  cases hk : test xs with
  | false => rw [hk] at hr; cases hr
  | true =>
    rw [hk] at hr
    have := ht xs hk
    subst this
    cases hr
    exact hc f xs H _ H (h H) hw
theorem tab_kernel {cfg : Cfg} {k : Nat} {f : FuncId} {args : List AV} {v : AV} (h : ∀ H, F.callF P cfg k f args H = some (.res v H)) : ∀ H, callN P cfg k f args H = some (.ret v, H) := fun H => by
  obtain ⟨p, h1, h2⟩ := F.callF_ok P cfg k f args H _ (h H)
  cases h1
  exact h2
theorem isNil_ok (xs : List AV) (h : isNil xs = true) : xs = [] := by
  cases xs with
  | nil => rfl
  | cons _ _ => cases h
theorem isStr1_ok (s : List UInt8) (xs : List AV) (h : isStr1 s xs = true) : xs = [.str s] := by
  unfold isStr1 at h
  split at h <;> try (cases h; done)
  rw [F.eqB_eq, beq_iff_eq] at h
  rw [h]
end Go.Ab

/- The abstract machine: the summary of strconv.FormatInt at base 10, by the shelf's contract. -/
namespace Go.Ab
set_option linter.unusedVariables false
set_option linter.unusedSectionVars false
variable [HasBase]
variable {P : Program}
open Go.Sort

theorem inI64_ok {n : Int} (h : inI64 n = true) : -9223372036854775808 ≤ n ∧ n ≤ 9223372036854775807 := by
  unfold inI64 at h
  rw [Bool.and_eq_true] at h
  have h1 := Nat.le_of_ble_eq_true h.1
  have h2 := Nat.le_of_ble_eq_true h.2
  omega
theorem itoaK_eq (n : Int) : itoaK n = Lib.itoa n := by
  unfold itoaK
  split
  · rename_i m
    split
    · rename_i h
      have h := Nat.le_of_ble_eq_true h
      unfold Lib.itoa
      rw [if_neg (by simp)]
      unfold Lib.decDigits
      rw [dif_pos (by simp; omega)]
      simp
    · rfl
  · rfl
theorem isTen_ok {b : Int} (h : isTen b = true) : b = 10 := by
  unfold isTen at h
  split at h
  · have := Nat.eq_of_beq_eq_true h; subst this; rfl
  · cases h

/-- The world with blocks that nobody knows of. -/
theorem grow_same {E : Env} {g : Nat → Ob} (hs : Sat E g) (n k : Nat) (os : Array Obj) :
    Ext E { mu := E.mu, perm := E.perm, w := grow (E.w.drewN k) os } n n ∧ Sat { mu := E.mu, perm := E.perm, w := grow (E.w.drewN k) os } g := by
  have hold : ∀ b, b < E.w.heap.size → (grow (E.w.drewN k) os).heap[b]? = E.w.heap[b]? := fun b hb => heap_grow_old (E.w.drewN k) os hb
  have hsz : E.w.heap.size ≤ (grow (E.w.drewN k) os).heap.size := by rw [size_grow]; exact Nat.le_add_right _ _
  have hext : Ext E { mu := E.mu, perm := E.perm, w := grow (E.w.drewN k) os } n n :=
    { le := Nat.le_refl _
      muOut := fun _ _ => rfl
      muNew := fun id b o h1 h2 => absurd h2 (by omega)
      size := hsz
      perm := fun b h => h
      permNew := fun b h => .inl h
      frame := fun b hb _ => hold b hb
      shape := fun b s h => by rw [← h]; exact shape_of_block (hold b (shape_lt h))
      os := rfl
      tape := rfl
      output := rfl }
  refine ⟨hext, ?_⟩
  exact
    { muLt := fun id b o' h => Nat.lt_of_lt_of_le (hs.muLt id b o' h) hsz
      permLt := fun b h => Nat.lt_of_lt_of_le (hs.permLt b h) hsz
      permOwn := fun b h ⟨id, o', hm⟩ => hs.permOwn b h ⟨id, o', hm⟩
      ob := fun id b o' hm => (hs.ob id b o' hm).mono_of (hold b (hs.muLt id b o' hm)) fun x v hv => hv.mono hext fun id h1 h2 => absurd h2 (by omega)
      base := hs.keepBase hext
      inj := hs.inj }

theorem sFormatInt_ok {ρ : Shelf.Ren} (L : Proofs.LaysM.n173 P ρ)
    (hrun : ∀ vs w, (callFunc (ρ.f 173) vs).run P w = .ok (.enter (ρ.f 173) vs) w) {g : Nat} {tab : Obj} (hB : HasBase.B g = some tab)
    (hT : ∀ w : World, w.heap[g]? = some tab → Lib.TabIs P w "internal/strconv.uint64pow10" .u64 Lib.pow10Tab) : SumOK P (ρ.f 173) sFormatInt := by
  intro args H r H' h hw
  unfold sFormatInt at h
  split at h <;> try (cases h; done)
  rename_i n b
  split at h <;> try (cases h; done)
  rename_i hk
  cases h
  rw [Bool.and_eq_true] at hk
  obtain ⟨h0, h1⟩ := inI64_ok hk.1
  have h2 := isTen_ok hk.2
  subst h2
  refine ⟨hw, Nat.le_refl _, fun E vs hvs hsat hfr => .inr ⟨hrun vs E.w, ?_⟩⟩
  obtain ⟨v1, us, e1, hv1, hus⟩ := hvs.inv
  obtain ⟨v2, us2, e2, hv2, hus2⟩ := hus.inv
  have e3 := hus2.inv_nil
  have := hv1.int_inv'
  subst this
  have := hv2.int_inv'
  subst this
  rw [e2, e3] at e1
  have ev := arr_of_list e1
  subst ev
  have hc := Proofs.Any.strconv_FormatInt_10 L n h0 h1 E.w (hT E.w (hsat.base _ _ hB).2)
  refine hc.mono ?_
  rintro e w' ⟨rfl, k, os, rfl⟩
  obtain ⟨h3, h4⟩ := grow_same hsat H.n k os
  exact ⟨_, rfl, h3, h4, _, rfl, .str _ _ (itoaK_eq n).symm⟩

theorem sCmpString_ok {f : FuncId} {fn : Func} (hf : P.funcs[f]? = some fn) (hname : (fn.name == "runtime.NumGoroutine") = false) (hb : fn.body.isNone = true) (hn : Extern.findNext fn = none) (he : Extern.find fn = some Extern.BytealgCompare.compare) : SumOK P f sCmpString := by
  refine sum_ext hf hname hb hn he fun args H r H' h => ?_
  unfold sCmpString at h
  split at h <;> try (cases h; done)
  rename_i a b
  cases h
  refine ⟨rfl, _, rfl, fun E vs hvs => ?_⟩
  obtain ⟨v1, us, e1, hv1, hus⟩ := hvs.inv
  obtain ⟨v2, us2, e2, hv2, hus2⟩ := hus.inv
  have e3 := hus2.inv_nil
  obtain ⟨s, rfl, hs⟩ := hv1.str_inv2
  obtain ⟨t, rfl, ht⟩ := hv2.str_inv2
  rw [e2, e3] at e1
  have ev := arr_of_list e1
  subst ev
  subst hs
  subst ht
  exact ⟨_, Lib.run_compareString s t E.w, .int _ _⟩

/-! tables by equality -/
theorem or_ok {f : FuncId} {s t : List AV → Heap → Option (CR × Heap)} (h1 : SumOK P f s) (h2 : SumOK P f t) : SumOK P f (orS s t) := by
  intro args H r H' h hw
  unfold orS at h
  cases hs : s args H with
  | none => rw [hs] at h; exact h2 args H r H' h hw
  | some p => rw [hs] at h; cases h; exact h1 args H r H' hs hw
theorem isArgs_ok (ys xs : List AV) (h : isArgs ys xs = true) : xs = ys := AV.beqs_eq xs ys h
end Go.Ab
