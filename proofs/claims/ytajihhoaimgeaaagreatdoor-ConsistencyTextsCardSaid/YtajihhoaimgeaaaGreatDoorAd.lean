/- The abstract machine: calls and panics as operations; what a call function has to keep. -/
import Derived.Test.YtajihhoaimgeaaaGreatDoorAc
set_option linter.unusedVariables false
set_option linter.unusedSimpArgs false
set_option linter.unusedSectionVars false
set_option linter.unnecessarySimpa false
namespace Go.Ab
set_option linter.unusedSectionVars false
variable [HasBase]
set_option linter.unusedVariables false
set_option linter.unusedSimpArgs false

variable {P : Program}

theorem pureR_no {H : Heap} {x : Option AV} {f : FuncId} {as : List AV} : pureR H x ≠ some (.call f as) := by cases x <;> simp [pureR]
theorem heapR_no {x : Option Heap} {f : FuncId} {as : List AV} : heapR x ≠ some (.call f as) := by cases x <;> simp [heapR]
theorem bothR_no {x : Option (AV × Heap)} {f : FuncId} {as : List AV} : bothR x ≠ some (.call f as) := by cases x <;> simp [bothR]
theorem pureR_no2 {H : Heap} {x : Option AV} {p : AV} : pureR H x ≠ some (.pan p) := by cases x <;> simp [pureR]
theorem heapR_no2 {x : Option Heap} {p : AV} : heapR x ≠ some (.pan p) := by cases x <;> simp [heapR]
theorem bothR_no2 {x : Option (AV × Heap)} {p : AV} : bothR x ≠ some (.pan p) := by cases x <;> simp [bothR]

theorem builtin_val {H : Heap} {b : Builtin} {ts : Array TypeId} {args : List AV} {r : OR} (h : builtinA P H b ts args = some r) : ∃ v H', r = .val v H' := by
  cases r with
  | val v H' => exact ⟨v, H', rfl⟩
  | pan p =>
    exfalso
    cases b <;> simp only [builtinA] at h <;> (repeat' (split at h)) <;> first
      | (cases h; done)
      | exact pureR_no2 h
      | exact bothR_no2 h
  | call f as =>
    exfalso
    cases b <;> simp only [builtinA] at h <;> (repeat' (split at h)) <;> first
      | (cases h; done)
      | exact pureR_no h
      | exact bothR_no h

theorem call_inv {o : Oper} {tm : List AV} {H : Heap} {f : FuncId} {args : List AV} (h : opA P o tm H = some (.call f args)) :
    ∃ g cargs cts cap as, o.op = .call ⟨.value g, cargs, cts⟩ ∧ ev tm g = some (.fn f cap) ∧ evs tm cargs.toList = some as ∧ args = as ++ cap := by
  obtain ⟨dst, op, type, pos, after, guard⟩ := o
  cases op
  case call c =>
    simp only [opA] at h
    split at h <;> try (cases h; done)
    rename_i as has
    obtain ⟨callee, cargs, cts⟩ := c
    cases callee with
    | builtin b => obtain ⟨v, H', e⟩ := builtin_val h; cases e
    | invoke r m => cases h
    | value g =>
      dsimp only at h has
      split at h <;> try (cases h; done)
      rename_i fid cap hg
      simp only [Option.some.injEq, OR.call.injEq] at h
      obtain ⟨rfl, rfl⟩ := h
      exact ⟨g, cargs, cts, cap, as, rfl, hg, has, rfl⟩
  case' makeFunc f _ _ => cases f
  case' makeMap t r => cases r
  case' slice t x lo hi mx => cases mx
  all_goals exfalso
  all_goals simp only [opA] at h
  all_goals (repeat' (split at h))
  all_goals first
    | (cases h; done)
    | exact pureR_no h
    | exact heapR_no h
    | exact bothR_no h

theorem pan_inv {o : Oper} {tm : List AV} {H : Heap} {p : AV} (h : opA P o tm H = some (.pan p)) :
    ∃ x t v, o.op = .panic x ∧ ev tm x = some (.ifc t v) ∧ p = .ifc t v := by
  obtain ⟨dst, op, type, pos, after, guard⟩ := o
  cases op
  case panic x =>
    simp only [opA] at h
    split at h <;> try (cases h; done)
    rename_i t v hx
    simp only [Option.some.injEq, OR.pan.injEq] at h
    exact ⟨x, t, v, rfl, hx, h.symm⟩
  case call c =>
    exfalso
    simp only [opA] at h
    split at h <;> try (cases h; done)
    rename_i as has
    obtain ⟨callee, cargs, cts⟩ := c
    cases callee with
    | builtin b => obtain ⟨v, H', e⟩ := builtin_val h; cases e
    | invoke r m => cases h
    | value g => dsimp only at h; split at h <;> cases h
  case' makeFunc f _ _ => cases f
  case' makeMap t r => cases r
  case' slice t x lo hi mx => cases mx
  all_goals exfalso
  all_goals simp only [opA] at h
  all_goals (repeat' (split at h))
  all_goals first
    | (cases h; done)
    | exact pureR_no2 h
    | exact heapR_no2 h
    | exact bothR_no2 h

theorem call_op {o : Oper} {tm : List AV} {H : Heap} {f : FuncId} {args : List AV} (h : opA P o tm H = some (.call f args)) :
    clsOf P o.op = .writer ∧ ∀ (E : Env) (a : Act), TM E tm a.tmps → ∃ vs : Array Value, VL E args vs.toList ∧ ∀ w, (execOp a.eval o).run P w = (callFunc f vs).run P w := by
  obtain ⟨g, cargs, cts, cap, as, ho, hg, has, rfl⟩ := call_inv h
  refine ⟨by rw [ho]; rfl, fun E a ht => ?_⟩
  obtain ⟨cv, hcv, hcl⟩ := (ev_spec ht hg).fn_inv
  refine ⟨cargs.map a.eval ++ cv, ?_, fun w => ?_⟩
  · rw [Array.toList_append, Array.toList_map]
    exact (evs_spec ht has).append hcl
  · obtain ⟨dst, op, type, pos, after, guard⟩ := o
    dsimp only at ho
    subst ho
    simp only [execOp, resolve, hcv, Deferred.ofValue, Sem.run_bind, Sem.run_pure, Result.andThen_ok, invoke, Array.empty_append]

theorem pan_op {o : Oper} {tm : List AV} {H : Heap} {p : AV} (h : opA P o tm H = some (.pan p)) :
    clsOf P o.op = .writer ∧ ∀ (E : Env) (a : Act), TM E tm a.tmps → ∃ v, V E p v ∧ (execOp a.eval o).run P E.w = .halt (.panic v) E.w := by
  obtain ⟨x, t, v, ho, hx, rfl⟩ := pan_inv h
  refine ⟨by rw [ho]; rfl, fun E a ht => ?_⟩
  have hV := ev_spec ht hx
  refine ⟨a.eval x, hV, ?_⟩
  obtain ⟨dst, op, type, pos, after, guard⟩ := o
  dsimp only at ho
  subst ho
  simp only [execOp]
  generalize a.eval x = u at hV ⊢
  cases hV
  rfl

/-- A call by its number: a function of the model's own answers now, another one is entered. -/
def Invokes (P : Program) (f : FuncId) (vs : Array Value) (w : World) (R : Ending → World → Prop) : Prop :=
  (∃ v w', (callFunc f vs).run P w = .ok (.value v) w' ∧ R (.returned v) w') ∨
  ((callFunc f vs).run P w = .ok (.enter f vs) w ∧ Calls P f vs w R)

/-- How a call ended. -/
def EndR (E' : Env) : CR → Ending → Prop
  | .ret x, e => ∃ v, e = .returned v ∧ V E' x v
  | .pan p, e => ∃ v, e = .panicked [{ v, recovered := false }] ∧ V E' p v

def CallOK (P : Program) (call : CallFn) : Prop :=
  ∀ f args H r H', call f args H = some (r, H') → H.wf → H'.wf ∧ H.n ≤ H'.n ∧
    ∀ (E : Env) (vs : Array Value), VL E args vs.toList → Sat E H.get → Fresh E H.n H'.n →
      Invokes P f vs E.w fun e w' => ∃ E', E'.w = w' ∧ Ext E E' H.n H'.n ∧ Sat E' H'.get ∧ EndR E' r e

end Go.Ab

/- The abstract machine: one operation of a region, a region in text order. -/
namespace Go.Ab
set_option linter.unusedSectionVars false
variable [HasBase]
set_option linter.unusedVariables false
set_option linter.unusedSimpArgs false

variable {P : Program}

theorem bool_V {E : Env} {x : AV} {v : Value} (h : V E x v) (b : Bool) : x = .bool b ↔ v = .bool b := by
  constructor
  · rintro rfl; exact h.bool_inv
  · rintro rfl; cases h; rfl

theorem wanted_ok {E : Env} {ops : Array Oper} {o : Oper} {tm : List AV} {a : Act} (ht : TM E tm a.tmps) : Region.wanted o (yielded ops a.tmps) = wantedA ops o tm := by
  unfold Region.wanted wantedA
  cases o.guard with
  | none => rfl
  | some g =>
    obtain ⟨j, want⟩ := g
    dsimp only
    unfold yielded
    cases hd : (ops[j]?).bind (·.dst) with
    | none => rfl
    | some d =>
      simp only [Option.bind_some]
      cases hx : tm[d]? with
      | none =>
        have : a.tmps[d]? = none := by
          have h1 := List.getElem?_eq_none_iff.1 hx
          have h2 := ht.len
          exact Array.getElem?_eq_none (by omega)
        simp [this]
      | some x =>
        obtain ⟨v, hv, hV⟩ := ht.get hx
        have hv' : a.tmps[d]? = some v := by simpa using hv
        rw [hv']
        by_cases hb : ∃ b, x = .bool b
        · obtain ⟨b, rfl⟩ := hb
          have := hV.bool_inv
          subst this
          rfl
        · have hb2 : ∀ b, v ≠ .bool b := fun b e => hb ⟨b, (bool_V hV b).2 e⟩
          cases x <;> cases v <;> first
            | rfl
            | exact absurd ⟨_, rfl⟩ hb
            | exact absurd rfl (hb2 _)

section
variable {ops : Array Oper} {Q : Exit → Act → World → Prop} {i : Nat} {K : Act → World → Prop} {a : Act} {o : Oper}

/-- As 'wpOp', where nothing is asked of the memory's size. -/
def wpOpL (P : Program) (ops : Array Oper) (Q : Exit → Act → World → Prop) (i : Nat) (K : Act → World → Prop) (a : Act) (w : World) : Prop :=
  match ops[i]? with
  | none => K a w
  | some o => if Region.wanted o (yielded ops a.tmps) then o.wp P a w K Q else K (a.put o.dst undef) w

theorem wpOpL.to {w : World} (h : wpOpL P ops Q i K a w) : wpOp P ops Q i K a w := by
  unfold wpOpL at h
  unfold Go.wpOp
  split
  · rename_i ho; rw [ho] at h; exact h
  · rename_i o ho
    rw [ho] at h
    dsimp only at h
    split
    · rename_i hw; rw [if_pos hw] at h; exact .inl h
    · rename_i hw; rw [if_neg hw] at h; exact h

theorem wpL_unwanted {w : World} (ho : ops[i]? = some o) (hw : Region.wanted o (yielded ops a.tmps) = false) (h : K (a.put o.dst undef) w) : wpOpL P ops Q i K a w := by
  unfold wpOpL
  simp only [ho, hw, Bool.false_eq_true, if_false]
  exact h

theorem wpL_done {E E' : Env} {v : AV} (ho : ops[i]? = some o) (hw : Region.wanted o (yielded ops a.tmps) = true) (hd : Done P E o a v E') (h : ∀ val, V E' v val → K (a.put o.dst val) E'.w) : wpOpL P ops Q i K a E.w := by
  unfold wpOpL
  simp only [ho, hw, if_true]
  obtain ⟨nx, hr, h1⟩ := hd
  unfold Oper.wp
  rw [hr]
  rcases h1 with ⟨val, rfl, hv⟩ | ⟨rfl, rfl⟩
  · exact h val hv
  · exact h undef .undef

theorem wpL_call {w : World} {f : FuncId} {vs : Array Value} {R : Ending → World → Prop} (ho : ops[i]? = some o) (hw : Region.wanted o (yielded ops a.tmps) = true) (he : ∀ w, (execOp a.eval o).run P w = (callFunc f vs).run P w)
    (hi : Invokes P f vs w R) (hret : ∀ v w', R (.returned v) w' → K (a.put o.dst v) w') (hpan : ∀ ch w', R (.panicked ch) w' → Q (.panic ch) a w') (hout : ∀ w', ¬ R .outgrown w') : wpOpL P ops Q i K a w := by
  unfold wpOpL
  simp only [ho, hw, if_true]
  unfold Oper.wp
  rw [he]
  rcases hi with ⟨v, w', h1, h2⟩ | ⟨h1, h2⟩
  · rw [h1]; exact hret v w' h2
  · rw [h1]
    refine Calls.mono h2 fun e w' h3 => ?_
    cases e with
    | returned v => exact hret v w' h3
    | panicked ch => exact hpan ch w' h3
    | outgrown => exact absurd h3 (hout w')

theorem wpL_pan {w : World} {v : Value} (ho : ops[i]? = some o) (hw : Region.wanted o (yielded ops a.tmps) = true) (he : (execOp a.eval o).run P w = .halt (.panic v) w) (h : Q (.panic [{ v, recovered := false }]) a w) : wpOpL P ops Q i K a w := by
  unfold wpOpL
  simp only [ho, hw, if_true]
  unfold Oper.wp
  rw [he]
  exact h

theorem wpOp_unwanted {w : World} (ho : ops[i]? = some o) (hw : Region.wanted o (yielded ops a.tmps) = false) (h : K (a.put o.dst undef) w) : wpOp P ops Q i K a w := (wpL_unwanted ho hw h).to
theorem wpOp_done {E E' : Env} {v : AV} (ho : ops[i]? = some o) (hw : Region.wanted o (yielded ops a.tmps) = true) (hd : Done P E o a v E') (h : ∀ val, V E' v val → K (a.put o.dst val) E'.w) : wpOp P ops Q i K a E.w := (wpL_done ho hw hd h).to
theorem wpOp_call {w : World} {f : FuncId} {vs : Array Value} {R : Ending → World → Prop} (ho : ops[i]? = some o) (hw : Region.wanted o (yielded ops a.tmps) = true) (he : ∀ w, (execOp a.eval o).run P w = (callFunc f vs).run P w)
    (hi : Invokes P f vs w R) (hret : ∀ v w', R (.returned v) w' → K (a.put o.dst v) w') (hpan : ∀ ch w', R (.panicked ch) w' → Q (.panic ch) a w') (hout : ∀ w', ¬ R .outgrown w') : wpOp P ops Q i K a w := (wpL_call ho hw he hi hret hpan hout).to
theorem wpOp_pan {w : World} {v : Value} (ho : ops[i]? = some o) (hw : Region.wanted o (yielded ops a.tmps) = true) (he : (execOp a.eval o).run P w = .halt (.panic v) w) (h : Q (.panic [{ v, recovered := false }]) a w) : wpOp P ops Q i K a w := (wpL_pan ho hw he h).to
end

theorem TM.put {E : Env} {tm : List AV} {a : Act} (ht : TM E tm a.tmps) (d : Option Tmp) {x : AV} {v : Value} (hv : V E x v) : TM E (putA tm d x) (a.put d v).tmps := by
  cases d with
  | none => exact ht
  | some d =>
    simp only [putA, Act.put]
    show VL E _ _
    rw [Array.toList_setIfInBounds]
    exact VL.set ht d hv

theorem put_defers (a : Act) (d : Option Tmp) (v : Value) : (a.put d v).defers = a.defers := by cases d <;> rfl
theorem put_size (a : Act) (d : Option Tmp) (v : Value) : (a.put d v).tmps.size = a.tmps.size := by cases d <;> simp [Act.put]
theorem put_other (a : Act) {d : Option Tmp} (v : Value) {t : Nat} (h : d ≠ some t) : (a.put d v).tmps[t]? = a.tmps[t]? := by
  cases d with
  | none => rfl
  | some d =>
    simp only [Act.put]
    exact Array.getElem?_setIfInBounds_ne (fun e => h (by rw [e]))

def SR.heap : SR → Heap
  | .go _ H => H
  | .pan _ H => H

/-- The kinds of outcome of an operation, all at once. -/
theorem op_val {o : Oper} {tm : List AV} {H H' : Heap} {v : AV} (h : opA P o tm H = some (.val v H')) (hw : H.wf) : Full P o tm H v H' := by
  cases hq : clsOf P o.op with
  | quiet =>
    obtain ⟨v', e, hd⟩ := quiet_op hq h
    cases e
    exact .same hw fun E a ht _ => hd E a ht
  | load =>
    obtain ⟨v', e, hd⟩ := load_op hq h
    cases e
    refine .same hw fun E a ht hs => hd E a ht ?_
    unfold Peeks
    split
    · exact fun x' n r _ _ hr => looks_of hs hr
    · exact fun id b o _ hm => hs.ob id b o hm
    · trivial
  | new =>
    obtain ⟨v', ob, e, hl, hd⟩ := new_op hq h
    cases e
    refine ⟨Heap.wf_push _ hw, by simp, fun E a ht hs hf => ?_⟩
    obtain ⟨s, he, hn⟩ := hd E a ht
    have hc := hn.comes hs (hf H.n (Nat.le_refl _) (by simp))
    rw [← Heap.get_push] at hc
    exact Done.of_comes he hc
  | store =>
    obtain ⟨id, off, ob, t, x, y, e, ho, hx, hlt, hlive, hd⟩ := store_op hq h hw
    cases e
    refine ⟨Heap.wf_set _ _ hw, Nat.le_refl _, fun E a ht hs hf => ?_⟩
    obtain ⟨E', h1, h2, h3⟩ := hd E a H.get H.n ht hs rfl hlt
    refine ⟨E', h1, h2, ?_⟩
    rw [Heap.get_set _ hw hlt]
    exact h3
  | other => exact (full_op (.inl hq) h hw).1
  | writer => exact (full_op (.inr hq) h hw).1

/-- An operation in text order. -/
theorem step_ok {call : CallFn} (hcall : CallOK P call) {ops : Array Oper} {o : Oper} {tm : List AV} {H : Heap} {r : SR} (h : stepA P call ops o tm H = some r) (hw : H.wf) :
    r.heap.wf ∧ H.n ≤ r.heap.n ∧ ∀ (E : Env) (a : Act) (i : Nat) (K : Act → World → Prop) (Q : Exit → Act → World → Prop), ops[i]? = some o → TM E tm a.tmps → Sat E H.get → Fresh E H.n r.heap.n →
      (∀ tm' H', r = .go tm' H' → ∀ E' v, Ext E E' H.n H'.n → Sat E' H'.get → TM E' tm' (a.put o.dst v).tmps → K (a.put o.dst v) E'.w) →
      (∀ p H', r = .pan p H' → ∀ E' v, Ext E E' H.n H'.n → Sat E' H'.get → V E' p v → Q (.panic [{ v, recovered := false }]) a E'.w) →
      wpOpL P ops Q i K a E.w := by
  unfold stepA at h
  split at h
  · rename_i hwant
    split at h <;> try (cases h; done)
    · rename_i v H' hop
      simp only [Option.some.injEq] at h; subst h
      obtain ⟨h1, h2, h3⟩ := op_val hop hw
      refine ⟨h1, h2, fun E a i K Q ho ht hs hf hgo hpan => ?_⟩
      obtain ⟨E', hd, hext, hsat⟩ := h3 E a ht hs hf
      exact wpL_done ho (by rw [wanted_ok ht]; exact hwant) hd fun val hv => hgo _ _ rfl E' val hext hsat (TM.put (a := a) (VL.mono hext hf ht) o.dst hv)
    · rename_i v hop
      simp only [Option.some.injEq] at h; subst h
      refine ⟨hw, Nat.le_refl _, fun E a i K Q ho ht hs hf hgo hpan => ?_⟩
      obtain ⟨_, hp⟩ := pan_op hop
      obtain ⟨u, hu, hr⟩ := hp E a ht
      exact wpL_pan ho (by rw [wanted_ok ht]; exact hwant) hr (hpan _ _ rfl E u (Ext.refl E _) hs hu)
    · rename_i f args hop
      obtain ⟨_, hc⟩ := call_op hop
      split at h <;> try (cases h; done)
      · rename_i v H' hca
        simp only [Option.some.injEq] at h; subst h
        obtain ⟨h1, h2, h3⟩ := hcall f args H _ _ hca hw
        refine ⟨h1, h2, fun E a i K Q ho ht hs hf hgo hpan => ?_⟩
        obtain ⟨vs, hvl, he⟩ := hc E a ht
        refine wpL_call ho (by rw [wanted_ok ht]; exact hwant) he (h3 E vs hvl hs hf) ?_ ?_ ?_
        · rintro u w' ⟨E', rfl, hext, hsat, u', hu', hV⟩
          cases hu'
          exact hgo _ _ rfl E' u hext hsat (TM.put (a := a) (VL.mono hext hf ht) o.dst hV)
        · rintro ch w' ⟨E', rfl, hext, hsat, u', hu', hV⟩
          cases hu'
        · rintro w' ⟨E', rfl, hext, hsat, u', hu', hV⟩
          cases hu'
      · rename_i v H' hca
        simp only [Option.some.injEq] at h; subst h
        obtain ⟨h1, h2, h3⟩ := hcall f args H _ _ hca hw
        refine ⟨h1, h2, fun E a i K Q ho ht hs hf hgo hpan => ?_⟩
        obtain ⟨vs, hvl, he⟩ := hc E a ht
        refine wpL_call ho (by rw [wanted_ok ht]; exact hwant) he (h3 E vs hvl hs hf) ?_ ?_ ?_
        · rintro u w' ⟨E', rfl, hext, hsat, u', hu', hV⟩
          cases hu'
        · rintro ch w' ⟨E', rfl, hext, hsat, u', hu', hV⟩
          cases hu'
          exact hpan _ _ rfl E' u' hext hsat hV
        · rintro w' ⟨E', rfl, hext, hsat, u', hu', hV⟩
          cases hu'
  · rename_i hwant
    simp only [Option.some.injEq] at h; subst h
    refine ⟨hw, Nat.le_refl _, fun E a i K Q ho ht hs hf hgo hpan => ?_⟩
    exact wpL_unwanted ho (by rw [wanted_ok ht]; exact hwant) (hgo _ _ rfl E undef (Ext.refl E _) hs (TM.put (a := a) ht o.dst .undef))

/-- What a region comes to. -/
structure RPost (E0 : Env) (n0 : Nat) (a0 : Act) (D : List Tmp) (r : SR) (e : Exit) (a : Act) (w : World) : Prop where
  ex : ∃ E, E.w = w ∧ Ext E0 E n0 r.heap.n ∧ Sat E r.heap.get ∧ match r, e with
    | .go tm _, .normal => TM E tm a.tmps
    | .pan p _, .panic ch => ∃ v, ch = [{ v, recovered := false }] ∧ V E p v
    | _, _ => False
  defers : a.defers = a0.defers
  size : a.tmps.size = a0.tmps.size
  keep : ∀ t, t ∉ D → a.tmps[t]? = a0.tmps[t]?

theorem ops_ok {call : CallFn} (hcall : CallOK P call) {ops : Array Oper} : ∀ (l : List Oper) (i0 : Nat), (∀ j, l[j]? = ops[i0 + j]?) → ∀ (tm : List AV) (H : Heap) (r : SR), runOps P call ops l tm H = some r → H.wf →
    r.heap.wf ∧ H.n ≤ r.heap.n ∧ ∀ (E0 E : Env) (n0 : Nat) (a0 a : Act) (D : List Tmp), Ext E0 E n0 H.n → Fresh E0 n0 r.heap.n → a.defers = a0.defers → a.tmps.size = a0.tmps.size → (∀ t, t ∉ D → a.tmps[t]? = a0.tmps[t]?) → (∀ o, o ∈ l → ∀ d, o.dst = some d → d ∈ D) →
      TM E tm a.tmps → Sat E H.get → Fresh E H.n r.heap.n → wpOps P ops (RPost E0 n0 a0 D r) (List.range' i0 l.length) a E.w
  | [], i0, hl, tm, H, r, h, hw => by
    simp only [runOps, Option.some.injEq] at h; subst h
    refine ⟨hw, Nat.le_refl _, fun E0 E n0 a0 a D hext hf0 hd hs hk hD ht hsat hf => ?_⟩
    exact ⟨⟨E, rfl, hext, hsat, ht⟩, hd, hs, hk⟩
  | o :: l, i0, hl, tm, H, r, h, hw => by
    unfold runOps at h
    have ho : ops[i0]? = some o := by have := hl 0; simpa using this.symm
    have hl' : ∀ j, l[j]? = ops[i0 + 1 + j]? := fun j => by
      have := hl (j + 1)
      simp only [List.getElem?_cons_succ] at this
      rw [this]; congr 1; omega
    cases hst : stepA P call ops o tm H with
    | none => rw [hst] at h; simp at h
    | some s =>
      obtain ⟨h1, h2, h3⟩ := step_ok hcall hst hw
      rw [hst] at h
      cases s with
      | pan p H1 =>
        simp only [Option.some.injEq] at h; subst h
        refine ⟨h1, h2, fun E0 E n0 a0 a D hext hf0 hd hs hk hD ht hsat hf => ?_⟩
        rw [List.length_cons, List.range'_succ, wpOps_cons]
        refine wpOpL.to (h3 E a i0 _ _ ho ht hsat hf (fun _ _ e => by cases e) fun p' H' e E' v hext' hsat' hV => ?_)
        cases e
        exact ⟨⟨E', rfl, hext.trans hext' hf0, hsat', v, rfl, hV⟩, hd, hs, hk⟩
      | go tm1 H1 =>
        dsimp only at h
        obtain ⟨g1, g2, g3⟩ := ops_ok hcall l (i0 + 1) hl' tm1 H1 r h h1
        refine ⟨g1, Nat.le_trans h2 g2, fun E0 E n0 a0 a D hext hf0 hd hs hk hD ht hsat hf => ?_⟩
        rw [List.length_cons, List.range'_succ, wpOps_cons]
        have hfa : Fresh E H.n H1.n := hf.mono (Nat.le_refl _) g2
        have hfb : Fresh E H1.n r.heap.n := hf.mono h2 (Nat.le_refl _)
        refine wpOpL.to (h3 E a i0 _ _ ho ht hsat hfa (fun tm' H' e E' v hext' hsat' ht' => ?_) (fun _ _ e => by cases e))
        cases e
        refine g3 E0 E' n0 a0 (a.put o.dst v) D (hext.trans hext' (hf0.mono (Nat.le_refl _) g2)) hf0 ((put_defers _ _ _).trans hd) ((put_size _ _ _).trans hs) (fun t htD => ?_) (fun o' ho' => hD o' (List.mem_cons_of_mem _ ho')) ht' hsat'
          (hext'.fresh hfb (.inl (Nat.le_refl _)))
        rw [put_other _ _ fun e => htD (hD o (List.mem_cons_self ..) t e)]
        exact hk t htD

theorem region_text {call : CallFn} (hcall : CallOK P call) {ops : Array Oper} {tm : List AV} {H : Heap} {r : SR} (h : runOps P call ops ops.toList tm H = some r) (hw : H.wf) (id : Nat) :
    r.heap.wf ∧ H.n ≤ r.heap.n ∧ ∀ (E : Env) (a : Act), TM E tm a.tmps → Sat E H.get → Fresh E H.n r.heap.n → (Code.region id ops false).wp P (RPost E H.n a (ops.toList.filterMap (·.dst)) r) a E.w := by
  obtain ⟨h1, h2, h3⟩ := ops_ok hcall ops.toList 0 (fun j => by simp) tm H r h hw
  refine ⟨h1, h2, fun E a ht hs hf => wp_region ?_⟩
  have := h3 E E H.n a a (ops.toList.filterMap (·.dst)) (Ext.refl E _) hf rfl rfl (fun _ _ => rfl) (fun o ho d hd => List.mem_filterMap.2 ⟨o, ho, hd⟩) ht hs hf
  rwa [List.range_eq_range', ← Array.length_toList]
end Go.Ab

/- The abstract machine: what the checks of a region in any order say. -/
namespace Go.Ab
set_option linter.unusedSectionVars false
variable [HasBase]
set_option linter.unusedVariables false
set_option linter.unusedSimpArgs false

variable {P : Program}

mutual
theorem AV.beq_eq : ∀ (a b : AV), AV.beq a b = true → a = b
  | .undef, b, h => by cases b <;> first | rfl | (simp [AV.beq] at h; done)
  | .bool x, b, h => by cases b <;> first | (simp [AV.beq] at h; done) | (simp [AV.beq] at h; simp [h])
  | .int k x, b, h => by cases b <;> first | (simp [AV.beq] at h; done) | (simp [AV.beq] at h; simp [h])
  | .str x, b, h => by cases b <;> first | (simp [AV.beq] at h; done) | (simp [AV.beq] at h; simp [h])
  | .ptr x y, b, h => by cases b <;> first | (simp [AV.beq] at h; done) | (simp [AV.beq] at h; simp [h])
  | .eptr t cs o, b, h => by
    cases b with
    | eptr t' cs' o' => simp [AV.beq] at h; rw [AV.beqs_eq cs cs' h.2, h.1.1, h.1.2]
    | _ => simp [AV.beq] at h
  | .nilp, b, h => by cases b <;> first | rfl | (simp [AV.beq] at h; done)
  | .sl x y z u, b, h => by cases b <;> first | (simp [AV.beq] at h; done) | (simp [AV.beq] at h; simp [h])
  | .isl t r, b, h => by
    cases b with
    | isl t' r' => simp [AV.beq] at h; rw [AV.beqss_eq r r' h.2, h.1]
    | _ => simp [AV.beq] at h
  | .nils, b, h => by cases b <;> first | rfl | (simp [AV.beq] at h; done)
  | .map x, b, h => by cases b <;> first | (simp [AV.beq] at h; done) | (simp [AV.beq] at h; simp [h])
  | .nilm, b, h => by cases b <;> first | rfl | (simp [AV.beq] at h; done)
  | .fn f c, b, h => by
    cases b with
    | fn f' c' => simp [AV.beq] at h; rw [AV.beqs_eq c c' h.2, h.1]
    | _ => simp [AV.beq] at h
  | .nilf, b, h => by cases b <;> first | rfl | (simp [AV.beq] at h; done)
  | .ifc t v, b, h => by
    cases b with
    | ifc t' v' => simp [AV.beq] at h; rw [AV.beq_eq v v' h.2, h.1]
    | _ => simp [AV.beq] at h
  | .nili, b, h => by cases b <;> first | rfl | (simp [AV.beq] at h; done)
  | .agg c, b, h => by
    cases b with
    | agg c' => simp [AV.beq] at h; rw [AV.beqs_eq c c' h]
    | _ => simp [AV.beq] at h
  | .tup c, b, h => by
    cases b with
    | tup c' => simp [AV.beq] at h; rw [AV.beqs_eq c c' h]
    | _ => simp [AV.beq] at h
theorem AV.beqs_eq : ∀ (a b : List AV), AV.beqs a b = true → a = b
  | [], b, h => by cases b <;> first | rfl | (simp [AV.beqs] at h; done)
  | x :: xs, b, h => by
    cases b with
    | nil => simp [AV.beqs] at h
    | cons y ys => simp [AV.beqs] at h; rw [AV.beq_eq x y h.1, AV.beqs_eq xs ys h.2]
theorem AV.beqss_eq : ∀ (a b : List (List AV)), AV.beqss a b = true → a = b
  | [], b, h => by cases b <;> first | rfl | (simp [AV.beqss] at h; done)
  | x :: xs, b, h => by
    cases b with
    | nil => simp [AV.beqss] at h
    | cons y ys => simp [AV.beqss] at h; rw [AV.beqs_eq x y h.1, AV.beqss_eq xs ys h.2]
end

theorem pairs_ext {α β : Type} : ∀ {a b : List (α × β)}, a.map Prod.fst = b.map Prod.fst → a.map Prod.snd = b.map Prod.snd → a = b
  | [], [], _, _ => rfl
  | [], y :: ys, h, _ => by simp at h
  | x :: xs, [], h, _ => by simp at h
  | x :: xs, y :: ys, h1, h2 => by
    simp only [List.map_cons, List.cons.injEq] at h1 h2
    rw [pairs_ext h1.2 h2.2, Prod.ext h1.1 h2.1]

theorem Ob.same_eq {a b : Ob} (h : Ob.same a b = true) : a = b := by
  cases a <;> cases b <;> simp [Ob.same] at h
  · rfl
  · rw [AV.beqs_eq _ _ h.2, h.1.1, h.1.2]
  · rw [pairs_ext (AV.beqs_eq _ _ h.1) (AV.beqs_eq _ _ h.2)]

theorem eqO_eq {a b : Option (List AV)} (h : eqO a b = true) : a = b := by
  cases a <;> cases b <;> simp [eqO] at h
  · rfl
  · rw [AV.beqs_eq _ _ h]

/-! ### what comes before -/
def an (ops : Array Oper) (i : Nat) : Nat := (ancs ops.toList).getD i 0

theorem edges_spec (acc : List Nat) : ∀ (es : List Edge) (j : Nat), (edgesOf acc es).testBit j = true ↔ ∃ e, e ∈ es ∧ Region.binds .any e = true ∧ (j = e.on ∨ (acc.getD e.on 0).testBit j = true)
  | [], j => by simp [edgesOf]
  | e :: es, j => by
    unfold edgesOf
    split
    · rename_i hb
      rw [Nat.testBit_or, Nat.testBit_or, Bool.or_eq_true, Bool.or_eq_true, edges_spec acc es j, Nat.testBit_two_pow]
      constructor
      · rintro ((h | h) | ⟨e', h1, h2, h3⟩)
        · exact ⟨e, by simp, hb, .inl (by simpa using h : e.on = j).symm⟩
        · exact ⟨e, by simp, hb, .inr h⟩
        · exact ⟨e', by simp [h1], h2, h3⟩
      · rintro ⟨e', h1, h2, h3⟩
        rcases List.mem_cons.1 h1 with rfl | h1
        · rcases h3 with h3 | h3
          · exact .inl (.inl (by simp [h3]))
          · exact .inl (.inr h3)
        · exact .inr ⟨e', h1, h2, h3⟩
    · rename_i hb
      rw [edges_spec acc es j]
      constructor
      · rintro ⟨e', h1, h2, h3⟩; exact ⟨e', by simp [h1], h2, h3⟩
      · rintro ⟨e', h1, h2, h3⟩
        rcases List.mem_cons.1 h1 with rfl | h1
        · exact absurd h2 hb
        · exact ⟨e', h1, h2, h3⟩

theorem ancsGo_spec : ∀ (ops : List Oper) (acc : List Nat), ∃ l, ancsGo ops acc = acc ++ l ∧ l.length = ops.length ∧ ∀ (i : Nat) o, ops[i]? = some o → (acc ++ l)[acc.length + i]? = some (edgesOf ((acc ++ l).take (acc.length + i)) o.after.toList)
  | [], acc => ⟨[], by simp [ancsGo], rfl, by simp⟩
  | o :: ops, acc => by
    obtain ⟨l, h1, h2, h3⟩ := ancsGo_spec ops (acc ++ [edgesOf acc o.after.toList])
    refine ⟨edgesOf acc o.after.toList :: l, by rw [ancsGo, h1]; simp, by simp [h2], fun i o' hi => ?_⟩
    cases i with
    | zero =>
      simp only [List.getElem?_cons_zero, Option.some.injEq] at hi; subst hi
      simp
    | succ i =>
      have := h3 i o' (by simpa using hi)
      simp only [List.length_append, List.length_singleton, List.append_assoc, List.singleton_append] at this
      rwa [show acc.length + (i + 1) = acc.length + 1 + i from by omega]

theorem an_eq {ops : Array Oper} {i : Nat} {o : Oper} (ho : ops[i]? = some o) : an ops i = edgesOf ((ancs ops.toList).take i) o.after.toList := by
  obtain ⟨l, h1, h2, h3⟩ := ancsGo_spec ops.toList []
  have := h3 i o (by simpa using ho)
  simp only [List.nil_append, List.length_nil, Nat.zero_add] at this h1
  unfold an ancs
  rw [h1, List.getD_eq_getElem?_getD, this]
  rfl

/-- What is closed under the arrows holds all that comes before. -/
theorem an_closed {ops : Array Oper} {S : Nat → Prop} (hS : ∀ i o, ops[i]? = some o → S i → ∀ e, e ∈ o.after → Region.binds .any e = true → S e.on) :
    ∀ (n i : Nat), i < n → ∀ o, ops[i]? = some o → (∀ e, e ∈ o.after → Region.binds .any e = true → S e.on) → ∀ j, (an ops i).testBit j = true → S j
  | 0, i, hi, _, _, _, _, _ => by omega
  | n + 1, i, hi, o, ho, hr, j, hj => by
    rw [an_eq ho, edges_spec] at hj
    obtain ⟨e, h1, h2, h3⟩ := hj
    have he : e ∈ o.after := by simpa using h1
    have hSe := hr e he h2
    rcases h3 with h3 | h3
    · rw [h3]; exact hSe
    · have hlt : e.on < i := by
        rcases Nat.lt_or_ge e.on i with h | h
        · exact h
        · rw [List.getD_eq_getElem?_getD, List.getElem?_take, if_neg (by omega)] at h3
          simp at h3
      have h4 : (an ops e.on).testBit j = true := by
        rw [List.getD_eq_getElem?_getD, List.getElem?_take, if_pos hlt] at h3
        unfold an
        rw [List.getD_eq_getElem?_getD]
        exact h3
      have hsz : i < ops.size := (Array.getElem?_eq_some_iff.1 ho).1
      have hoe : ops[e.on]? = some ops[e.on] := by simp [show e.on < ops.size from by omega]
      exact an_closed hS n e.on (by omega) _ hoe (hS _ _ hoe hSe) j h4

structure OkD (ops : Array Oper) : Prop where
  low : ∀ i, i < ops.size → an ops i < 2 ^ i
  once : ∀ (i j : Nat) o o' d, ops[i]? = some o → ops[j]? = some o' → i ≠ j → o'.dst = some d → o.dst ≠ some d
  before : ∀ (i j : Nat) o o' d, ops[i]? = some o → ops[j]? = some o' → i ≠ j → o'.dst = some d → d ∈ o.looksAt ops → (if j < i then (an ops i).testBit j else (an ops j).testBit i) = true

theorem okDraw_spec {ops : Array Oper} (h : okDraw ops = true) : OkD ops := by
  unfold okDraw at h
  simp only [List.all_eq_true, List.mem_range, Bool.and_eq_true, decide_eq_true_eq] at h
  have main : ∀ (i j : Nat) o o' d, ops[i]? = some o → ops[j]? = some o' → i ≠ j → o'.dst = some d → o.dst ≠ some d ∧ (d ∈ o.looksAt ops → (if j < i then (an ops i).testBit j else (an ops j).testBit i) = true) := by
    intro i j o o' d ho ho' hne hd
    have hi : i < ops.size := (Array.getElem?_eq_some_iff.1 ho).1
    have hj : j < ops.size := (Array.getElem?_eq_some_iff.1 ho').1
    have h1 := (h i hi).2
    rw [ho] at h1
    simp only [List.all_eq_true, List.mem_range] at h1
    have h2 := h1 j hj
    rw [ho'] at h2
    simp only [hd, Bool.or_eq_true, beq_iff_eq, hne, false_or, Bool.and_eq_true, bne_iff_ne, ne_eq, Bool.not_eq_true'] at h2
    refine ⟨h2.1, fun hm => ?_⟩
    rcases h2.2 with h3 | h3
    · rw [List.contains_iff_mem.2 hm] at h3; cases h3
    · exact h3
  exact ⟨fun i hi => (h i hi).1, fun i j o o' d a b c e => (main i j o o' d a b c e).1, fun i j o o' d a b c e => (main i j o o' d a b c e).2⟩

def wrC (c : Cls) : Prop := c = .writer ∨ c = .store

/-- Neither before the other. -/
def Un (ops : Array Oper) (i j : Nat) : Prop := i ≠ j ∧ (an ops j).testBit i = false ∧ (an ops i).testBit j = false

theorem pairs_spec {ops : Array Oper} {ps : List (Nat × Nat)} (h : pairsOf P ops.toList = some ps) (i j : Nat) (oi oj : Oper) (hi : ops[i]? = some oi) (hj : ops[j]? = some oj) (hu : Un ops i j) (hw : wrC (clsOf P oj.op)) :
    clsOf P oi.op ≠ .writer ∧ clsOf P oi.op ≠ .other ∧ (clsOf P oi.op = .store → clsOf P oj.op = .store) ∧ (clsOf P oi.op = .load ∨ clsOf P oi.op = .store ∨ (clsOf P oi.op = .new ∧ i < j) → (i, j) ∈ ps) := by
  have hil : i < ops.size := (Array.getElem?_eq_some_iff.1 hi).1
  have hjl : j < ops.size := (Array.getElem?_eq_some_iff.1 hj).1
  have ci : (ops.toList.map fun o => clsOf P o.op).getD i .quiet = clsOf P oi.op := by
    rw [List.getD_eq_getElem?_getD, List.getElem?_map]
    have : ops.toList[i]? = some oi := by simpa using hi
    rw [this]; rfl
  have cj : (ops.toList.map fun o => clsOf P o.op).getD j .quiet = clsOf P oj.op := by
    rw [List.getD_eq_getElem?_getD, List.getElem?_map]
    have : ops.toList[j]? = some oj := by simpa using hj
    rw [this]; rfl
  unfold pairsOf at h
  dsimp only at h
  split at h <;> try (cases h; done)
  rename_i hall
  simp only [Option.some.injEq] at h; subst h
  have hm : (i, j) ∈ ((List.range ops.toList.length).flatMap fun i => ((List.range ops.toList.length).filter fun j =>
      ((decide ((ops.toList.map fun o => clsOf P o.op).getD j .quiet = .writer) || decide ((ops.toList.map fun o => clsOf P o.op).getD j .quiet = .store)) &&
        (i != j && !((ancs ops.toList).getD j 0).testBit i && !((ancs ops.toList).getD i 0).testBit j))).map fun j => (i, j)) := by
    rw [List.mem_flatMap]
    refine ⟨i, by simpa using hil, ?_⟩
    rw [List.mem_map]
    refine ⟨j, ?_, rfl⟩
    rw [List.mem_filter]
    refine ⟨by simpa using hjl, ?_⟩
    rw [cj]
    have h1 : ((ancs ops.toList).getD j 0).testBit i = false := hu.2.1
    have h2 : ((ancs ops.toList).getD i 0).testBit j = false := hu.2.2
    rw [h1, h2]
    have h3 := hu.1
    unfold wrC at hw
    simp only [Bool.not_false, Bool.and_true, Bool.and_eq_true, Bool.or_eq_true, decide_eq_true_eq, bne_iff_ne, ne_eq]
    exact ⟨hw, h3⟩
  have ha := List.all_eq_true.1 hall _ hm
  dsimp only at ha
  rw [ci, cj] at ha
  simp only [Bool.and_eq_true, bne_iff_ne, ne_eq, Bool.or_eq_true, decide_eq_true_eq] at ha
  refine ⟨ha.1.1, ha.1.2, fun hs => ha.2.resolve_left fun hn => hn hs, fun hc => ?_⟩
  rw [List.mem_filter]
  refine ⟨hm, ?_⟩
  dsimp only
  rw [ci]
  simp only [Bool.or_eq_true, decide_eq_true_eq, Bool.and_eq_true]
  rcases hc with hc | hc | hc
  · exact .inl (.inl hc)
  · exact .inl (.inr hc)
  · exact .inr hc
end Go.Ab

/- The abstract machine: an operation looks at its operands alone; the text run of a region. -/
namespace Go.Ab
set_option linter.unusedSectionVars false
variable [HasBase]
set_option linter.unusedVariables false
set_option linter.unusedSimpArgs false

variable {P : Program}

theorem mapO_congr {α β : Type} {f g : α → Option β} : ∀ {xs : List α}, (∀ x, x ∈ xs → f x = g x) → mapO f xs = mapO g xs
  | [], _ => rfl
  | x :: xs, h => by
    simp only [mapO]
    rw [h x (by simp), mapO_congr fun y hy => h y (by simp [hy])]

theorem opA_congr {o : Oper} {tm tm' : List AV} {H : Heap} (h : ∀ x, x ∈ o.op.operands → ev tm x = ev tm' x) : opA P o tm H = opA P o tm' H := by
  have parts : ∀ ps : Array (Nat × Operand), (∀ x, x ∈ (ps.toList.map (·.2)).toArray → ev tm x = ev tm' x) → evParts tm ps.toList = evParts tm' ps.toList := fun ps hp =>
    mapO_congr fun p hm => by
      obtain ⟨i, x⟩ := p
      simp only [hp x (by simpa using ⟨i, by simpa using hm⟩)]
  have lst : ∀ ps : Array Operand, (∀ x, x ∈ ps → ev tm x = ev tm' x) → evs tm ps.toList = evs tm' ps.toList := fun ps hp =>
    mapO_congr fun p hm => hp p (by simpa using hm)
  have opt : ∀ x : Option Operand, (∀ y, y ∈ x.toArray → ev tm y = ev tm' y) → evO tm x = evO tm' x := fun x hp => by
    cases x with
    | none => rfl
    | some x => simp only [evO]; rw [hp x (by simp)]
  obtain ⟨dst, op, type, pos, after, guard⟩ := o
  cases op <;> simp only [Op.operands] at h <;> simp only [opA]
  case build t ps => rw [parts ps h]
  case buildSlice t n ps => rw [parts ps h]
  case makeFunc f first captured =>
    cases f <;> try rfl
    dsimp only
    rw [lst captured fun x hx => h x (by simp [hx])]
  case makeMap t r =>
    cases r with
    | none => rfl
    | some r => dsimp only; rw [h r (by simp)]
  case slice t x lo hi mx =>
    cases mx with
    | some m => rfl
    | none =>
      dsimp only
      rw [h x (by simp), opt lo fun y hy => h y (by simp [hy]), opt hi fun y hy => h y (by simp [hy])]
  case call c =>
    rw [lst c.args fun x hx => h x (by simp [Call.operands, hx])]
    cases hc : c.callee with
    | value f => dsimp only; rw [h f (by simp [Call.operands, hc])]
    | invoke r m => rfl
    | builtin b => rfl
  all_goals first
    | rfl
    | (simp only [List.mem_toArray, List.mem_cons, List.not_mem_nil, or_false, forall_eq_or_imp, forall_eq] at h; simp only [h]; done)

theorem ev_congr {tm tm' : List AV} {x : Operand} (h : ∀ t, x = .tmp t → tm[t]? = tm'[t]?) : ev tm x = ev tm' x := by
  cases x with
  | tmp t => simp only [ev, List.getD_eq_getElem?_getD, h t rfl]
  | _ => rfl

theorem looks_congr {ops : Array Oper} {o : Oper} {tm tm' : List AV} (h : ∀ t, t ∈ o.looksAt ops → tm[t]? = tm'[t]?) :
    (∀ H, opA P o tm H = opA P o tm' H) ∧ wantedA ops o tm = wantedA ops o tm' ∧ ∀ x, x ∈ o.op.operands → ev tm x = ev tm' x := by
  have hev : ∀ x, x ∈ o.op.operands → ev tm x = ev tm' x := fun x hx => ev_congr fun t ht => h t (by
    subst ht
    exact List.mem_append_left _ (List.mem_filterMap.2 ⟨.tmp t, by simpa using hx, rfl⟩))
  refine ⟨fun H => opA_congr hev, ?_, hev⟩
  unfold wantedA
  cases hg : o.guard with
  | none => rfl
  | some g =>
    obtain ⟨j, want⟩ := g
    dsimp only
    cases hd : (ops[j]?).bind (·.dst) with
    | none => rfl
    | some d =>
      dsimp only
      rw [h d (by unfold Oper.looksAt; rw [hg]; exact List.mem_append_right _ (by simp [hd]))]

/-- The text run of a region: the states on the way. -/
structure Trace (P : Program) (call : CallFn) (ops : Array Oper) (M : Nat) (T : Nat → List AV) (G : Nat → Heap) : Prop where
  step : ∀ i, i < M → ∃ o, ops[i]? = some o ∧ stepA P call ops o (T i) (G i) = some (.go (T (i + 1)) (G (i + 1)))
  wf0 : (G 0).wf

theorem trace_of {call : CallFn} {ops : Array Oper} : ∀ (l : List Oper) (i0 : Nat) (tm : List AV) (H : Heap) (snaps : List (List AV × Heap)) (r : SR), (∀ j, l[j]? = ops[i0 + j]?) → runTrace P call ops l tm H = some (snaps, r) →
    snaps[0]? = some (tm, H) ∧ (∀ i o s s', l[i]? = some o → snaps[i]? = some s → snaps[i + 1]? = some s' → stepA P call ops o s.1 s.2 = some (.go s'.1 s'.2)) ∧
    (∀ tm' H', r = .go tm' H' → snaps.length = l.length + 1 ∧ snaps[l.length]? = some (tm', H')) ∧
    (∀ p H', r = .pan p H' → ∃ j o s, snaps.length = j + 1 ∧ l[j]? = some o ∧ snaps[j]? = some s ∧ stepA P call ops o s.1 s.2 = some (.pan p H'))
  | [], i0, tm, H, snaps, r, hl, h => by
    simp only [runTrace, Option.some.injEq, Prod.mk.injEq] at h
    obtain ⟨rfl, rfl⟩ := h
    refine ⟨rfl, fun i o s s' h => by simp at h, fun tm' H' e => ?_, fun p H' e => by cases e⟩
    cases e
    exact ⟨rfl, rfl⟩
  | o :: l, i0, tm, H, snaps, r, hl, h => by
    unfold runTrace at h
    have hl' : ∀ j, l[j]? = ops[i0 + 1 + j]? := fun j => by
      have := hl (j + 1)
      simp only [List.getElem?_cons_succ] at this
      rw [this]; congr 1; omega
    split at h <;> try (cases h; done)
    · rename_i tm1 H1 hst
      split at h <;> try (cases h; done)
      rename_i l' r' hr
      simp only [Option.some.injEq, Prod.mk.injEq] at h
      obtain ⟨rfl, rfl⟩ := h
      obtain ⟨h1, h2, h3, h4⟩ := trace_of l (i0 + 1) tm1 H1 l' r' hl' hr
      refine ⟨rfl, fun i o' s s' ho hs hs' => ?_, fun tm' H' e => ?_, fun p H' e => ?_⟩
      · cases i with
        | zero =>
          simp only [List.getElem?_cons_zero, Option.some.injEq, Nat.zero_add, List.getElem?_cons_succ] at ho hs hs'
          subst ho; subst hs
          rw [h1] at hs'
          cases hs'
          exact hst
        | succ i => exact h2 i o' s s' (by simpa using ho) (by simpa using hs) (by simpa using hs')
      · obtain ⟨g1, g2⟩ := h3 tm' H' e
        exact ⟨by simp [g1], by simpa using g2⟩
      · obtain ⟨j, o', s, g1, g2, g3, g4⟩ := h4 p H' e
        exact ⟨j + 1, o', s, by simp [g1], by simpa using g2, by simpa using g3, g4⟩
    · rename_i v H' hst
      simp only [Option.some.injEq, Prod.mk.injEq] at h
      obtain ⟨rfl, rfl⟩ := h
      refine ⟨rfl, fun i o' s s' ho hs hs' => by simp at hs', fun tm' H' e => (by cases e), fun p H' e => ?_⟩
      cases e
      exact ⟨0, o, (tm, H), rfl, rfl, rfl, hst⟩

section
variable {call : CallFn} {ops : Array Oper} {M : Nat} {T : Nat → List AV} {G : Nat → Heap}

theorem stepA_wf (hcall : CallOK P call) {o : Oper} {tm tm' : List AV} {H H' : Heap} (h : stepA P call ops o tm H = some (.go tm' H')) (hw : H.wf) : H'.wf ∧ H.n ≤ H'.n :=
  let ⟨h1, h2, _⟩ := step_ok hcall h hw
  ⟨h1, h2⟩

theorem Trace.wf (ht : Trace P call ops M T G) (hcall : CallOK P call) : ∀ i, i ≤ M → (G i).wf
  | 0, _ => ht.wf0
  | i + 1, hi => by
    obtain ⟨o, ho, hs⟩ := ht.step i (by omega)
    exact (stepA_wf hcall hs (ht.wf hcall i (by omega))).1

theorem Trace.mono (ht : Trace P call ops M T G) (hcall : CallOK P call) (i : Nat) : ∀ j, i ≤ j → j ≤ M → (G i).n ≤ (G j).n
  | 0, hij, _ => by rw [show i = 0 from by omega]; exact Nat.le_refl _
  | j + 1, hij, hj => by
    rcases Nat.lt_or_ge i (j + 1) with h | h
    · obtain ⟨o, ho, hs⟩ := ht.step j (by omega)
      exact Nat.le_trans (ht.mono hcall i j (by omega) (by omega)) (stepA_wf hcall hs (ht.wf hcall j (by omega))).2
    · rw [show i = j + 1 from by omega]; exact Nat.le_refl _

/-- What a step does to the slots. -/
theorem stepA_tm {o : Oper} {tm tm' : List AV} {H H' : Heap} (h : stepA P call ops o tm H = some (.go tm' H')) : ∃ v, tm' = putA tm o.dst v := by
  unfold stepA at h
  split at h
  · split at h <;> try (cases h; done)
    · simp only [Option.some.injEq, SR.go.injEq] at h
      exact ⟨_, h.1.symm⟩
    · split at h <;> try (cases h; done)
      simp only [Option.some.injEq, SR.go.injEq] at h
      exact ⟨_, h.1.symm⟩
  · simp only [Option.some.injEq, SR.go.injEq] at h
    exact ⟨_, h.1.symm⟩

theorem putA_other {tm : List AV} {d : Option Tmp} {v : AV} {t : Nat} (h : d ≠ some t) : (putA tm d v)[t]? = tm[t]? := by
  cases d with
  | none => rfl
  | some d =>
    simp only [putA]
    exact List.getElem?_set_ne (fun e => h (by rw [e]))
theorem putA_len {tm : List AV} {d : Option Tmp} {v : AV} : (putA tm d v).length = tm.length := by cases d <;> simp [putA]

theorem Trace.len (ht : Trace P call ops M T G) : ∀ i, i ≤ M → (T i).length = (T 0).length
  | 0, _ => rfl
  | i + 1, hi => by
    obtain ⟨o, ho, hs⟩ := ht.step i (by omega)
    obtain ⟨v, hv⟩ := stepA_tm hs
    rw [hv, putA_len, ht.len i (by omega)]

/-- A slot that nobody writes between stays. -/
theorem Trace.stays (ht : Trace P call ops M T G) (t i : Nat) : ∀ j, i ≤ j → j ≤ M → (∀ k o, i ≤ k → k < j → ops[k]? = some o → o.dst ≠ some t) → (T j)[t]? = (T i)[t]?
  | 0, hij, _, _ => by rw [show i = 0 from by omega]
  | j + 1, hij, hj, h => by
    rcases Nat.lt_or_ge i (j + 1) with hlt | hge
    · obtain ⟨o, ho, hs⟩ := ht.step j (by omega)
      obtain ⟨v, hv⟩ := stepA_tm hs
      rw [hv, putA_other (h j o (by omega) (by omega) ho)]
      exact ht.stays t i j (by omega) (by omega) fun k o h1 h2 h3 => h k o h1 (by omega) h3
    · rw [show i = j + 1 from by omega]

/-- The heap that a step leaves, by its kind. -/
theorem stepA_heap (hcall : CallOK P call) {o : Oper} {tm tm' : List AV} {H H' : Heap} (h : stepA P call ops o tm H = some (.go tm' H')) (hw : H.wf) :
    (wantedA ops o tm = false ∨ (clsOf P o.op ≠ .new ∧ clsOf P o.op ≠ .store ∧ clsOf P o.op ≠ .writer) → H' = H) ∧
    (wantedA ops o tm = true → clsOf P o.op = .new → ∃ ob, H' = H.push ob ∧ ob.live) ∧
    (wantedA ops o tm = true → clsOf P o.op = .store → ∃ id off ob t x y, H' = H.set id ob ∧ o.op = .store t x y ∧ ev tm x = some (.ptr id off) ∧ id < H.n) := by
  unfold stepA at h
  split at h
  · rename_i hwant
    split at h <;> try (cases h; done)
    · rename_i v H1 hop
      simp only [Option.some.injEq, SR.go.injEq] at h
      obtain ⟨rfl, rfl⟩ := h
      refine ⟨fun hc => ?_, fun _ hc => ?_, fun _ hc => ?_⟩
      · rcases hc with hc | ⟨h1, h2, h3⟩
        · rw [hwant] at hc; cases hc
        · cases hq : clsOf P o.op with
          | quiet => obtain ⟨v', e, _⟩ := quiet_op hq hop; cases e; rfl
          | load => obtain ⟨v', e, _⟩ := load_op hq hop; cases e; rfl
          | other => exact (full_op (.inl hq) hop hw).2 hq
          | new => exact absurd hq h1
          | store => exact absurd hq h2
          | writer => exact absurd hq h3
      · obtain ⟨v', ob, e, hl, _⟩ := new_op hc hop
        cases e
        exact ⟨ob, rfl, hl⟩
      · obtain ⟨id, off, ob, t, x, y, e, ho, hx, hlt, _⟩ := store_op hc hop hw
        cases e
        exact ⟨id, off, ob, t, x, y, rfl, ho, hx, hlt⟩
    · rename_i f args hop
      have hcl := (call_op hop).1
      split at h <;> try (cases h; done)
      simp only [Option.some.injEq, SR.go.injEq] at h
      refine ⟨fun hc => ?_, fun _ hc => ?_, fun _ hc => ?_⟩
      · rcases hc with hc | ⟨h1, h2, h3⟩
        · rw [hwant] at hc; cases hc
        · exact absurd hcl h3
      · rw [hcl] at hc; cases hc
      · rw [hcl] at hc; cases hc
  · rename_i hwant
    simp only [Option.some.injEq, SR.go.injEq] at h
    obtain ⟨rfl, rfl⟩ := h
    exact ⟨fun _ => rfl, fun hc => (by rw [hwant] at hc; cases hc), fun hc => (by rw [hwant] at hc; cases hc)⟩
end
end Go.Ab

/- The abstract machine: a region in any order; what holds on the way. -/
namespace Go.Ab
set_option linter.unusedSectionVars false
variable [HasBase]
set_option linter.unusedVariables false
set_option linter.unusedSimpArgs false

variable {P : Program}

theorem stepA_cases {call : CallFn} {ops : Array Oper} {o : Oper} {tm tm' : List AV} {H H' : Heap} (h : stepA P call ops o tm H = some (.go tm' H')) :
    (wantedA ops o tm = false ∧ tm' = putA tm o.dst .undef ∧ H' = H) ∨ (wantedA ops o tm = true ∧ ∃ v, opA P o tm H = some (.val v H') ∧ tm' = putA tm o.dst v) ∨
    (wantedA ops o tm = true ∧ ∃ f args v, opA P o tm H = some (.call f args) ∧ call f args H = some (.ret v, H') ∧ tm' = putA tm o.dst v) := by
  unfold stepA at h
  split at h
  · rename_i hw
    split at h <;> try (cases h; done)
    · rename_i v H1 hop
      simp only [Option.some.injEq, SR.go.injEq] at h
      obtain ⟨rfl, rfl⟩ := h
      exact .inr (.inl ⟨hw, v, hop, rfl⟩)
    · rename_i f args hop
      split at h <;> try (cases h; done)
      rename_i v H1 hc
      simp only [Option.some.injEq, SR.go.injEq] at h
      obtain ⟨rfl, rfl⟩ := h
      exact .inr (.inr ⟨hw, f, args, v, hop, hc, rfl⟩)
  · rename_i hw
    simp only [Option.some.injEq, SR.go.injEq] at h
    exact .inl ⟨hw, h.1.symm, h.2.symm⟩

def PairFact (P : Program) (o : Oper) (tm : List AV) (Hi Hj Hk : Heap) : Prop :=
  match o.op with
  | .load t a => ∃ x m, ev tm a = some x ∧ loadN P t = some m ∧ rd Hj x m = rd Hk x m
  | .lookup _ m _ _ => ∀ id, ev tm m = some (.map id) → Hj.get id = Hk.get id
  | .store _ a _ => ∀ id off, ev tm a = some (.ptr id off) → Hj.get id = Hk.get id
  | _ => Hj.get Hi.n = Hk.get Hi.n

structure DR (P : Program) (call : CallFn) (ops : Array Oper) (M : Nat) (T : Nat → List AV) (G : Nat → Heap) (nE : Nat) : Prop where
  tr : Trace P call ops M T G
  hcall : CallOK P call
  okd : OkD ops
  cls : ∀ (i j : Nat) (oi oj : Oper), ops[i]? = some oi → ops[j]? = some oj → Un ops i j → wrC (clsOf P oj.op) → clsOf P oi.op ≠ .writer ∧ clsOf P oi.op ≠ .other ∧ (clsOf P oi.op = .store → clsOf P oj.op = .store)
  chk : ∀ (i j : Nat) (oi oj : Oper), i < M → j < M → ops[i]? = some oi → ops[j]? = some oj → Un ops i j → wrC (clsOf P oj.op) →
    (clsOf P oi.op = .load ∨ clsOf P oi.op = .store ∨ (clsOf P oi.op = .new ∧ i < j)) → wantedA ops oi (T i) = true → PairFact P oi (T i) (G i) (G j) (G (j + 1))
  le : (G M).n ≤ nE

def Aff (G : Nat → Heap) (k id : Nat) : Prop := (G k).get id ≠ (G (k + 1)).get id

open Classical in
noncomputable def tau (p : Nat → Prop) : Nat → Nat → Nat
  | 0, t => t
  | r + 1, t => if p t then t else tau p r (t + 1)

theorem tau_spec (p : Nat → Prop) : ∀ (r t : Nat), t ≤ tau p r t ∧ tau p r t ≤ t + r ∧ (∀ k, t ≤ k → k < tau p r t → ¬ p k) ∧ (tau p r t < t + r → p (tau p r t))
  | 0, t => ⟨Nat.le_refl _, Nat.le_refl _, fun k h1 h2 => absurd h2 (by simp only [tau]; omega), fun h => absurd h (by simp only [tau]; omega)⟩
  | r + 1, t => by
    unfold tau
    split
    · rename_i hp
      exact ⟨Nat.le_refl _, by omega, fun k h1 h2 => by omega, fun _ => hp⟩
    · rename_i hp
      obtain ⟨h1, h2, h3, h4⟩ := tau_spec p r (t + 1)
      refine ⟨by omega, by omega, fun k g1 g2 => ?_, fun h => h4 (by omega)⟩
      rcases Nat.lt_or_ge t k with h | h
      · exact h3 k (by omega) g2
      · rw [show k = t from by omega]; exact hp

noncomputable def gS (M : Nat) (G : Nat → Heap) (S : Nat → Prop) (id : Nat) : Ob := (G (tau (fun k => ¬ S k ∧ Aff G k id) M 0)).get id

theorem chain {β : Type} {G : Nat → Heap} {id : Nat} (φ : Ob → β) (t : Nat) : ∀ u, t ≤ u → (∀ k, t ≤ k → k < u → φ ((G k).get id) = φ ((G (k + 1)).get id)) → φ ((G t).get id) = φ ((G u).get id)
  | 0, h, _ => by rw [show t = 0 from by omega]
  | u + 1, h, hk => by
    rcases Nat.lt_or_ge t (u + 1) with h1 | h1
    · rw [chain φ t u (by omega) fun k a b => hk k a (by omega)]; exact hk u (by omega) (by omega)
    · rw [show t = u + 1 from by omega]

theorem content_eq {M : Nat} {G : Nat → Heap} {S : Nat → Prop} {id t : Nat} (ht : t ≤ M) (h1 : ∀ k, k < t → Aff G k id → S k) (h2 : ∀ k, t ≤ k → k < M → S k → ¬ Aff G k id) : gS M G S id = (G t).get id := by
  unfold gS
  obtain ⟨a1, a2, a3, a4⟩ := tau_spec (fun k => ¬ S k ∧ Aff G k id) M 0
  generalize tau (fun k => ¬ S k ∧ Aff G k id) M 0 = u at *
  have hu : t ≤ u := by
    rcases Nat.lt_or_ge u t with h | h
    · obtain ⟨b1, b2⟩ := a4 (by omega)
      exact absurd (h1 u h b2) b1
    · exact h
  refine (chain (fun x => x) t u hu fun k b1 b2 => ?_).symm
  have h3 := a3 k (Nat.zero_le _) b2
  by_cases hA : Aff G k id
  · have : S k := Classical.byContradiction fun hn => h3 ⟨hn, hA⟩
    exact absurd hA (h2 k b1 (by omega) this)
  · exact Classical.byContradiction fun hn => hA hn

theorem gS_same {M : Nat} {G : Nat → Heap} {S : Nat → Prop} {i id : Nat} (h : ¬ Aff G i id) : gS M G (fun k => S k ∨ k = i) id = gS M G S id := by
  unfold gS
  congr 3
  funext k
  apply propext
  constructor
  · rintro ⟨h1, h2⟩; exact ⟨fun hs => h1 (.inl hs), h2⟩
  · rintro ⟨h1, h2⟩
    refine ⟨fun hs => ?_, h2⟩
    rcases hs with hs | rfl
    · exact h1 hs
    · exact h h2

section
variable {call : CallFn} {ops : Array Oper} {M : Nat} {T : Nat → List AV} {G : Nat → Heap} {nE : Nat}

theorem DR.low (D : DR P call ops M T G nE) {i j : Nat} {o : Oper} (ho : ops[i]? = some o) (h : (an ops i).testBit j = true) : j < i := by
  rcases Nat.lt_or_ge j i with h1 | h1
  · exact h1
  · have hlt := D.okd.low i (Array.getElem?_eq_some_iff.1 ho).1
    have : an ops i < 2 ^ j := Nat.lt_of_lt_of_le hlt (Nat.pow_le_pow_right (by omega) h1)
    rw [Nat.testBit_lt_two_pow this] at h
    cases h

theorem DR.wf (D : DR P call ops M T G nE) {i : Nat} (h : i ≤ M) : (G i).wf := D.tr.wf D.hcall i h
theorem DR.mono (D : DR P call ops M T G nE) {i j : Nat} (h : i ≤ j) (h2 : j ≤ M) : (G i).n ≤ (G j).n := D.tr.mono D.hcall i j h h2

/-- Who changes a block. -/
theorem DR.aff (D : DR P call ops M T G nE) {k id : Nat} (hk : k < M) (h : Aff G k id) : ∃ o, ops[k]? = some o ∧ wantedA ops o (T k) = true ∧
    ((clsOf P o.op = .new ∧ id = (G k).n ∧ (G (k + 1)).n = (G k).n + 1) ∨ (clsOf P o.op = .store ∧ id < (G k).n ∧ (G (k + 1)).n = (G k).n ∧ ∃ t x y off, o.op = .store t x y ∧ ev (T k) x = some (.ptr id off)) ∨ clsOf P o.op = .writer) := by
  obtain ⟨o, ho, hs⟩ := D.tr.step k hk
  obtain ⟨h1, h2, h3⟩ := stepA_heap D.hcall hs (D.wf (by omega))
  refine ⟨o, ho, ?_⟩
  have hne : G (k + 1) ≠ G k := fun e => h (by rw [e])
  have hw : wantedA ops o (T k) = true := by
    cases hw : wantedA ops o (T k) with
    | true => rfl
    | false => exact absurd (h1 (.inl hw)) hne
  refine ⟨hw, ?_⟩
  cases hq : clsOf P o.op with
  | new =>
    obtain ⟨ob, e, _⟩ := h2 hw hq
    refine .inl ⟨rfl, ?_, by rw [e]; rfl⟩
    refine Classical.byContradiction fun hid => h ?_
    rw [e, Heap.get_push]
    simp [hid]
  | store =>
    obtain ⟨id', off, ob, t, x, y, e, hop, hx, hlt⟩ := h3 hw hq
    have hid : id = id' := by
      refine Classical.byContradiction fun hid => h ?_
      rw [e, Heap.get_set ob (D.wf (by omega)) hlt]
      simp [hid]
    subst hid
    exact .inr (.inl ⟨rfl, hlt, by rw [e]; rfl, t, x, y, off, hop, hx⟩)
  | writer => exact .inr (.inr rfl)
  | quiet => exact absurd (h1 (.inr (by rw [hq]; simp))) hne
  | load => exact absurd (h1 (.inr (by rw [hq]; simp))) hne
  | other => exact absurd (h1 (.inr (by rw [hq]; simp))) hne

theorem DR.aff_lt (D : DR P call ops M T G nE) {k id : Nat} (hk : k < M) (h : Aff G k id) : id < (G (k + 1)).n := by
  rcases Nat.lt_or_ge id (G (k + 1)).n with h1 | h1
  · exact h1
  · exfalso
    apply h
    rw [Heap.get_far h1, Heap.get_far (Nat.le_trans (D.mono (i := k) (j := k + 1) (by omega) (by omega)) h1)]

theorem pairNew {o : Oper} {tm : List AV} {Hi Hj Hk : Heap} (h : PairFact P o tm Hi Hj Hk) (hc : clsOf P o.op = .new) : Hj.get Hi.n = Hk.get Hi.n := by
  unfold PairFact at h
  split at h
  · rename_i he; rw [he] at hc; cases hc
  · rename_i he; rw [he] at hc; cases hc
  · rename_i he; rw [he] at hc; cases hc
  · exact h

/-- Two that change the same block are in order. -/
theorem DR.star (D : DR P call ops M T G nE) {k l id : Nat} (hkl : k < l) (hl : l < M) (h1 : Aff G k id) (h2 : Aff G l id) : (an ops l).testBit k = true := by
  obtain ⟨ok, hok, hwk, hck⟩ := D.aff (by omega) h1
  obtain ⟨ol, hol, hwl, hcl⟩ := D.aff hl h2
  refine Classical.byContradiction fun hn => ?_
  have hun : Un ops k l := by
    refine ⟨by omega, by simpa using hn, ?_⟩
    cases hb : (an ops k).testBit l with
    | false => rfl
    | true => have := D.low hok hb; omega
  have hlt := D.aff_lt (by omega) h1
  have hmono := D.mono (i := k + 1) (j := l) (by omega) (by omega)
  have hwr : wrC (clsOf P ol.op) := by
    rcases hcl with ⟨_, hid, _⟩ | ⟨hc, _⟩ | hc
    · omega
    · exact .inr hc
    · exact .inl hc
  obtain ⟨c1, c2, c3⟩ := D.cls k l ok ol hok hol hun hwr
  rcases hck with ⟨hc, hid, _⟩ | ⟨hc, _, _, t, x, y, off, hop, hx⟩ | hc
  · have := D.chk k l ok ol (by omega) hl hok hol hun hwr (.inr (.inr ⟨hc, hkl⟩)) hwk
    have := pairNew this hc
    rw [← hid] at this
    exact h2 this
  · have := D.chk k l ok ol (by omega) hl hok hol hun hwr (.inr (.inl hc)) hwk
    unfold PairFact at this
    rw [hop] at this
    exact h2 (this id off hx)
  · exact c1 hc

/-- What holds when the operations of S have run. -/
structure Inv (P : Program) (ops : Array Oper) (M : Nat) (T : Nat → List AV) (G : Nat → Heap) (nE : Nat) (E0 : Env) (a0 : Act) (Ds : List Tmp) (S : Nat → Prop) (E : Env) (a : Act) : Prop where
  lt : ∀ k, S k → k < M
  closed : ∀ i o, ops[i]? = some o → S i → ∀ e, e ∈ o.after → Region.binds .any e = true → S e.on
  ext : Ext E0 E (G 0).n nE
  sat : Sat E (gS M G S)
  dom : ∀ id p, E.mu id = some p → (G 0).n ≤ id → id < nE → ∃ k, S k ∧ (G k).n ≤ id ∧ id < (G (k + 1)).n
  sep : ∀ k o, S k → ops[k]? = some o → clsOf P o.op = .new → wantedA ops o (T k) = true → ∀ id b o1 o2, id < (G k).n → E.mu id = some (b, o1) → E.mu (G k).n ≠ some (b, o2)
  tms : ∃ tmS, TM E tmS a.tmps ∧ tmS.length = (T 0).length ∧ ∀ d, ((∃ k o, S k ∧ ops[k]? = some o ∧ o.dst = some d) → tmS[d]? = (T M)[d]?) ∧ ((¬ ∃ k o, S k ∧ ops[k]? = some o ∧ o.dst = some d) → tmS[d]? = (T 0)[d]?)
  defers : a.defers = a0.defers
  size : a.tmps.size = a0.tmps.size
  keep : ∀ t, t ∉ Ds → a.tmps[t]? = a0.tmps[t]?

variable {E0 : Env} {a0 : Act} {Ds : List Tmp} {S : Nat → Prop} {E : Env} {a : Act}

structure Rdy (ops : Array Oper) (S : Nat → Prop) (i : Nat) (o : Oper) : Prop where
  op : ops[i]? = some o
  no : ¬ S i
  all : ∀ e, e ∈ o.after → Region.binds .any e = true → S e.on

theorem Rdy.anc {i : Nat} {o : Oper} (hr : Rdy ops S i o) (hi : Inv P ops M T G nE E0 a0 Ds S E a) {j : Nat} (h : (an ops i).testBit j = true) : S j :=
  an_closed hi.closed (i + 1) i (by omega) o hr.op hr.all j h

theorem Inv.anc (hi : Inv P ops M T G nE E0 a0 Ds S E a) {k : Nat} {o : Oper} (ho : ops[k]? = some o) (hk : S k) {j : Nat} (h : (an ops k).testBit j = true) : S j :=
  an_closed hi.closed (k + 1) k (by omega) o ho (hi.closed k o ho hk) j h

/-- A slot that a ready operation looks at is as in the text. -/
theorem looks_same (D : DR P call ops M T G nE) {tmS : List AV} {i : Nat} {o : Oper} (him : i ≤ M) (hr : Rdy ops S i o) (hi : Inv P ops M T G nE E0 a0 Ds S E a)
    (ht : ∀ d, ((∃ k o, S k ∧ ops[k]? = some o ∧ o.dst = some d) → tmS[d]? = (T M)[d]?) ∧ ((¬ ∃ k o, S k ∧ ops[k]? = some o ∧ o.dst = some d) → tmS[d]? = (T 0)[d]?)) :
    ∀ t, t ∈ o.looksAt ops → tmS[t]? = (T i)[t]? := by
  intro t hl
  have hsz : ∀ k o, ops[k]? = some o → k < ops.size := fun k o h => (Array.getElem?_eq_some_iff.1 h).1
  by_cases hex : ∃ k ok, S k ∧ ops[k]? = some ok ∧ ok.dst = some t
  · rw [(ht t).1 hex]
    obtain ⟨k, ok, hk, hok, hd⟩ := hex
    have hne : i ≠ k := fun e => hr.no (e ▸ hk)
    have hb := D.okd.before i k o ok t hr.op hok hne hd hl
    split at hb
    · rename_i hki
      -- written before
      have h1 := D.tr.stays t (k + 1) i (by omega) him fun k' o' g1 g2 g3 => D.okd.once k' k o' ok t g3 hok (by omega) hd
      have h2 := D.tr.stays t (k + 1) M (by omega) (Nat.le_refl _) fun k' o' g1 g2 g3 => D.okd.once k' k o' ok t g3 hok (by omega) hd
      rw [h1, h2]
    · exact absurd (hi.anc hok hk hb) hr.no
  · rw [(ht t).2 hex]
    refine (D.tr.stays t 0 i (Nat.zero_le _) him fun k ok g1 g2 g3 hd => ?_).symm
    have hne : i ≠ k := by omega
    have hb := D.okd.before i k o ok t hr.op g3 hne hd hl
    rw [if_pos g2] at hb
    exact hex ⟨k, ok, hr.anc hi hb, g3, hd⟩

/-- What a ready operation sees of a block. -/
theorem view_eq {β : Type} (D : DR P call ops M T G nE) (φ : Ob → β) {i id : Nat} {o : Oper} {p : Nat × Nat} (him : i ≤ M) (hr : Rdy ops S i o) (hi : Inv P ops M T G nE E0 a0 Ds S E a) (hid : id < (G i).n) (hmu : E.mu id = some p)
    (hφ : ∀ k ok, k < M → ops[k]? = some ok → wrC (clsOf P ok.op) → Un ops i k → φ ((G k).get id) = φ ((G (k + 1)).get id)) : φ (gS M G S id) = φ ((G i).get id) := by
  unfold gS
  obtain ⟨a1, a2, a3, a4⟩ := tau_spec (fun k => ¬ S k ∧ Aff G k id) M 0
  generalize tau (fun k => ¬ S k ∧ Aff G k id) M 0 = u at *
  rcases Nat.lt_or_ge i u with hu | hu
  · -- nothing done behind i changes it
    refine (chain φ i u (by omega) fun k g1 g2 => ?_).symm
    refine Classical.byContradiction fun hne => ?_
    have hA : Aff G k id := fun e => hne (by rw [e])
    have hSk : S k := Classical.byContradiction fun hn => a3 k (Nat.zero_le _) g2 ⟨hn, hA⟩
    have hki : i ≠ k := fun e => hr.no (e ▸ hSk)
    obtain ⟨ok, hok, hw, hc⟩ := D.aff (by omega) hA
    have hun : Un ops i k := by
      refine ⟨hki, ?_, ?_⟩
      · cases hb : (an ops k).testBit i with
        | false => rfl
        | true => exact absurd (hi.anc hok hSk hb) hr.no
      · cases hb : (an ops i).testBit k with
        | false => rfl
        | true => have := D.low hr.op hb; omega
    rcases hc with ⟨_, he, _⟩ | ⟨hc, _⟩ | hc
    · have := D.mono (i := i) (j := k) g1 (by omega)
      omega
    · exact hne (hφ k ok (by omega) hok (.inr hc) hun)
    · exact hne (hφ k ok (by omega) hok (.inl hc) hun)
  · refine chain φ u i hu fun k g1 g2 => ?_
    refine Classical.byContradiction fun hne => ?_
    have hA : Aff G k id := fun e => hne (by rw [e])
    obtain ⟨ok, hok, hw, hc⟩ := D.aff (by omega) hA
    have hSk : S k := by
      refine Classical.byContradiction fun hn => ?_
      have hun : Un ops i k := by
        refine ⟨by omega, ?_, ?_⟩
        · cases hb : (an ops k).testBit i with
          | false => rfl
          | true => have := D.low hok hb; omega
        · cases hb : (an ops i).testBit k with
          | false => rfl
          | true => exact absurd (hr.anc hi hb) hn
      rcases hc with ⟨_, he, hn1⟩ | ⟨hc, _⟩ | hc
      · have hm0 := D.mono (i := 0) (j := k) (by omega) (by omega)
        have hmi := D.mono (i := i) (j := M) him (Nat.le_refl _)
        have hle := D.le
        obtain ⟨k', hk', b1, b2⟩ := hi.dom id p hmu (by omega) (by omega)
        have hkM := hi.lt k' hk'
        rcases Nat.lt_trichotomy k' k with h | h | h
        · have := D.mono (i := k' + 1) (j := k) (by omega) (by omega); omega
        · exact hn (h ▸ hk')
        · have := D.mono (i := k + 1) (j := k') (by omega) (by omega); omega
      · exact hne (hφ k ok (by omega) hok (.inr hc) hun)
      · exact hne (hφ k ok (by omega) hok (.inl hc) hun)
    obtain ⟨b1, b2⟩ := a4 (by omega)
    rcases Nat.lt_or_ge u k with h | h
    · exact b1 (hi.anc hok hSk (D.star h (by omega) b2 hA))
    · rw [show k = u from by omega] at hSk
      exact b1 hSk

/-- .. of a block that it looks at as a whole: in text order with all that write. -/
theorem wr_un (D : DR P call ops M T G nE) {i : Nat} {o : Oper} (hr : Rdy ops S i o) (hc : clsOf P o.op = .other ∨ clsOf P o.op = .writer) : ∀ k ok, k < M → ops[k]? = some ok → wrC (clsOf P ok.op) → Un ops i k → False := by
  intro k ok hk hok hw hu
  obtain ⟨c1, c2, _⟩ := D.cls i k o ok hr.op hok hu hw
  rcases hc with hc | hc
  · exact c2 hc
  · exact c1 hc

theorem sat_at (D : DR P call ops M T G nE) {i : Nat} {o : Oper} (him : i ≤ M) (hr : Rdy ops S i o) (hi : Inv P ops M T G nE E0 a0 Ds S E a) (hc : clsOf P o.op = .other ∨ clsOf P o.op = .writer) : Sat E (G i).get := by
  have hv : ∀ id p, id < (G i).n → E.mu id = some p → gS M G S id = (G i).get id := fun id p h1 h2 =>
    view_eq D (fun x => x) him hr hi h1 h2 fun k ok g1 g2 g3 g4 => (wr_un D hr hc k ok g1 g2 g3 g4).elim
  refine ⟨hi.sat.muLt, hi.sat.permLt, hi.sat.permOwn, fun id b o' hm => ?_, hi.sat.base, fun id id' b o1 o2 h1 h2 h3 h4 => ?_⟩
  · rcases Nat.lt_or_ge id (G i).n with h | h
    · rw [← hv id _ h hm]; exact hi.sat.ob id b o' hm
    · rw [Heap.get_far h]; trivial
  · have g1 := Heap.get_lt h3
    have g2 := Heap.get_lt h4
    rw [← hv id _ g1 h1] at h3
    rw [← hv id' _ g2 h2] at h4
    exact hi.sat.inj id id' b o1 o2 h1 h2 h3 h4

theorem fresh_at (D : DR P call ops M T G nE) {i : Nat} {o : Oper} (him : i < M) (hr : Rdy ops S i o) (hi : Inv P ops M T G nE E0 a0 Ds S E a) : Fresh E (G i).n (G (i + 1)).n := by
  intro id h1 h2
  cases hm : E.mu id with
  | none => rfl
  | some p =>
    exfalso
    have hm0 := D.mono (i := 0) (j := i) (by omega) (by omega)
    have hmM := D.mono (i := i + 1) (j := M) (by omega) (Nat.le_refl _)
    have hle := D.le
    obtain ⟨k, hk, b1, b2⟩ := hi.dom id p hm (by omega) (by omega)
    have hkM := hi.lt k hk
    rcases Nat.lt_trichotomy k i with h | h | h
    · have := D.mono (i := k + 1) (j := i) (by omega) (by omega); omega
    · exact hr.no (h ▸ hk)
    · have := D.mono (i := i + 1) (j := k) (by omega) (by omega); omega

theorem Ext.inside {A B C : Env} {n n' m m' : Nat} (h : Ext A B n n') (k : Ext B C m m') (h1 : n ≤ m) (h2 : m' ≤ n') : Ext A C n n' where
  le := h.le
  muOut id hid := by rw [k.muOut id (by omega), h.muOut id hid]
  muNew id b o g1 g2 hm := by
    by_cases hr : m ≤ id ∧ id < m'
    · rcases k.muNew id b o hr.1 hr.2 hm with h3 | ⟨id0, o0, h3, h4⟩
      · exact .inl (Nat.le_trans h.size h3)
      · by_cases hr0 : n ≤ id0
        · exact h.muNew id0 b o0 hr0 (by omega) h4
        · rw [h.muOut id0 (by omega)] at h4
          exact .inr ⟨id0, o0, by omega, h4⟩
    · rw [k.muOut id hr] at hm
      exact h.muNew id b o g1 g2 hm
  size := Nat.le_trans h.size k.size
  perm b hb := k.perm _ (h.perm _ hb)
  permNew b hb := by
    rcases k.permNew b hb with h1 | h1
    · exact h.permNew b h1
    · exact .inr (Nat.le_trans h.size h1)
  frame b hb hno := by
    rw [k.frame b (Nat.lt_of_lt_of_le hb h.size) ?_, h.frame b hb hno]
    intro id o hid hm
    by_cases hr : n ≤ id
    · rcases h.muNew id b o hr (by have := k.le; omega) hm with h3 | ⟨id0, o0, h3, h4⟩
      · omega
      · exact hno id0 o0 h3 h4
    · rw [h.muOut id (by omega)] at hm; exact hno id o (by omega) hm
  shape b s hs := k.shape _ _ (h.shape _ _ hs)
  os := k.os.trans h.os
  tape := k.tape.trans h.tape
  output := k.output.trans h.output
end
end Go.Ab

/- The abstract machine: one more operation of a region in any order. -/
namespace Go.Ab
set_option linter.unusedSectionVars false
variable [HasBase]
set_option linter.unusedVariables false
set_option linter.unusedSimpArgs false

variable {P : Program} {call : CallFn} {ops : Array Oper} {M : Nat} {T : Nat → List AV} {G : Nat → Heap} {nE : Nat}
  {E0 : Env} {a0 : Act} {Ds : List Tmp} {S : Nat → Prop} {E : Env} {a : Act}

def Plus (S : Nat → Prop) (i : Nat) : Nat → Prop := fun k => S k ∨ k = i

/-- The slots after operation i. -/
theorem tms_put (D : DR P call ops M T G nE) {E' : Env} {i : Nat} {o : Oper} {v : AV} {val : Value} (him : i < M) (hr : Rdy ops S i o) (hmono : ∀ x u, V E x u → V E' x u) (hv : V E' v val) (hT : T (i + 1) = putA (T i) o.dst v)
    (h : ∃ tmS, TM E tmS a.tmps ∧ tmS.length = (T 0).length ∧ ∀ d, ((∃ k o, S k ∧ ops[k]? = some o ∧ o.dst = some d) → tmS[d]? = (T M)[d]?) ∧ ((¬ ∃ k o, S k ∧ ops[k]? = some o ∧ o.dst = some d) → tmS[d]? = (T 0)[d]?)) :
    ∃ tmS, TM E' tmS (a.put o.dst val).tmps ∧ tmS.length = (T 0).length ∧ ∀ d, ((∃ k o, Plus S i k ∧ ops[k]? = some o ∧ o.dst = some d) → tmS[d]? = (T M)[d]?) ∧ ((¬ ∃ k o, Plus S i k ∧ ops[k]? = some o ∧ o.dst = some d) → tmS[d]? = (T 0)[d]?) := by
  obtain ⟨tmS, h1, h2, h3⟩ := h
  have ht : TM E' tmS a.tmps := ⟨h1.1, fun j x u g1 g2 => hmono _ _ (h1.2 j x u g1 g2)⟩
  refine ⟨putA tmS o.dst v, TM.put ht o.dst hv, by rw [putA_len, h2], fun d => ?_⟩
  by_cases hd : o.dst = some d
  · refine ⟨fun _ => ?_, fun hn => absurd ⟨i, o, .inr rfl, hr.op, hd⟩ hn⟩
    have e1 := D.tr.stays d (i + 1) M (by omega) (Nat.le_refl _) fun k ok g1 g2 g3 => D.okd.once k i ok o d g3 hr.op (by omega) hd
    rw [e1, hT, hd]
    simp only [putA, List.getElem?_set, if_true, h2, D.tr.len i (by omega)]
  · rw [putA_other hd]
    refine ⟨fun ⟨k, ok, hk, hok, hkd⟩ => ?_, fun hn => ?_⟩
    · rcases hk with hk | rfl
      · exact (h3 d).1 ⟨k, ok, hk, hok, hkd⟩
      · rw [hr.op] at hok; cases hok; exact absurd hkd hd
    · exact (h3 d).2 fun ⟨k, ok, hk, hok, hkd⟩ => hn ⟨k, ok, .inl hk, hok, hkd⟩

theorem plus_lt {i : Nat} (him : i < M) (hi : Inv P ops M T G nE E0 a0 Ds S E a) : ∀ k, Plus S i k → k < M := fun k hk => by
  rcases hk with hk | rfl
  · exact hi.lt k hk
  · exact him

theorem plus_closed {i : Nat} {o : Oper} (hr : Rdy ops S i o) (hi : Inv P ops M T G nE E0 a0 Ds S E a) : ∀ k ok, ops[k]? = some ok → Plus S i k → ∀ e, e ∈ ok.after → Region.binds .any e = true → Plus S i e.on := by
  intro k ok hok hk e he hb
  rcases hk with hk | rfl
  · exact .inl (hi.closed k ok hok hk e he hb)
  · rw [hr.op] at hok; cases hok
    exact .inl (hr.all e he hb)

theorem gS_aff (D : DR P call ops M T G nE) {i id : Nat} {o : Oper} (him : i < M) (hr : Rdy ops S i o) (hi : Inv P ops M T G nE E0 a0 Ds S E a) (hA : Aff G i id) : gS M G (Plus S i) id = (G (i + 1)).get id := by
  refine content_eq (by omega) (fun k hk hAk => ?_) (fun k h1 h2 hk hAk => ?_)
  · rcases Nat.lt_or_ge k i with h | h
    · exact .inl (hr.anc hi (D.star h him hAk hA))
    · exact .inr (by omega)
  · rcases hk with hk | rfl
    · obtain ⟨ok, hok, _⟩ := D.aff h2 hAk
      exact hr.no (hi.anc hok hk (D.star (by omega) h2 hA hAk))
    · omega

/-- Nothing in memory changed. -/
theorem inv_same (D : DR P call ops M T G nE) {i : Nat} {o : Oper} {v : AV} {val : Value} (him : i < M) (hr : Rdy ops S i o) (hi : Inv P ops M T G nE E0 a0 Ds S E a) (hG : G (i + 1) = G i) (hn : clsOf P o.op = .new → wantedA ops o (T i) = false) (hD : ∀ d, o.dst = some d → d ∈ Ds)
    (hv : V E v val) (hT : T (i + 1) = putA (T i) o.dst v) : Inv P ops M T G nE E0 a0 Ds (Plus S i) E (a.put o.dst val) where
  lt := plus_lt him hi
  closed := plus_closed hr hi
  ext := hi.ext
  sat := by
    have : gS M G (Plus S i) = gS M G S := funext fun id => gS_same fun h => h (by rw [hG])
    rw [this]; exact hi.sat
  dom id p h1 h2 h3 := by obtain ⟨k, hk, h⟩ := hi.dom id p h1 h2 h3; exact ⟨k, .inl hk, h⟩
  sep k ok hk hok hc hw := by
    rcases hk with hk | rfl
    · exact hi.sep k ok hk hok hc hw
    · rw [hr.op] at hok; cases hok
      rw [hn hc] at hw; cases hw
  tms := tms_put D him hr (fun _ _ h => h) hv hT hi.tms
  defers := (put_defers _ _ _).trans hi.defers
  size := (put_size _ _ _).trans hi.size
  keep t ht := by rw [put_other _ _ fun e => ht (hD t e)]; exact hi.keep t ht

theorem rd_row (H : Heap) (id off n : Nat) : rd H (.ptr id off) n = (match H.get id with
    | .row bx e0 cs => if ((cs.drop off).take n).length = n then some ((cs.drop off).take n) else none
    | _ => none) := rfl

/-- What a load or a look into a map asks, holds. -/
theorem peeks_at (D : DR P call ops M T G nE) {i : Nat} {o : Oper} {tmS : List AV} (him : i < M) (hr : Rdy ops S i o) (hi : Inv P ops M T G nE E0 a0 Ds S E a) (hc : clsOf P o.op = .load) (hw : wantedA ops o (T i) = true)
    (hev : ∀ x, x ∈ o.op.operands → ev tmS x = ev (T i) x) : Peeks P E tmS (G i) o.op := by
  have hpf : ∀ k ok, k < M → ops[k]? = some ok → wrC (clsOf P ok.op) → Un ops i k → PairFact P o (T i) (G i) (G k) (G (k + 1)) := fun k ok h1 h2 h3 h4 =>
    D.chk i k o ok him h1 hr.op h2 h4 h3 (.inl hc) hw
  unfold Peeks
  split
  · rename_i t x hop
    intro x' n r hx hn hrd id off b o' he hm
    subst he
    rw [hev x (by rw [hop]; simp [Op.operands])] at hx
    have hid : id < (G i).n := by
      rw [rd_row] at hrd
      split at hrd
      · rename_i bx e0 cs hg
        exact Heap.get_lt (H := G i) (by rw [hg]; trivial)
      · cases hrd
    have hv := view_eq D (fun ob => match ob with
      | .row bx e0 cs => if ((cs.drop off).take n).length = n then some ((cs.drop off).take n) else none
      | _ => none) (by omega) hr hi hid hm fun k ok h1 h2 h3 h4 => by
        have := hpf k ok h1 h2 h3 h4
        unfold PairFact at this
        rw [hop] at this
        obtain ⟨y, m, g1, g2, g3⟩ := this
        rw [hx] at g1; cases g1
        rw [hn] at g2; cases g2
        rw [rd_row, rd_row] at g3
        exact g3
    rw [rd_row] at hrd
    rw [hrd] at hv
    have hob := hi.sat.ob id b o' hm
    split at hv
    · rename_i bx e cs hg
      split at hv
      · rename_i hl
        simp only [Option.some.injEq] at hv
        rw [hg] at hob
        exact ⟨bx, e, cs, hob, hv, by rw [← hv]; exact hl⟩
      · cases hv
    · cases hv
  · rename_i t m k ok hop
    intro id b o' hm hmu
    rw [hev m (by rw [hop]; simp [Op.operands])] at hm
    rcases Nat.lt_or_ge id (G i).n with hid | hid
    · have hv := view_eq D (fun ob => ob) (by omega) hr hi hid hmu fun k ok h1 h2 h3 h4 => by
        have := hpf k ok h1 h2 h3 h4
        unfold PairFact at this
        rw [hop] at this
        exact this id hm
      rw [← hv]
      exact hi.sat.ob id b o' hmu
    · rw [Heap.get_far hid]; trivial
  · trivial

/-- A new block. -/
theorem inv_new (D : DR P call ops M T G nE) {i : Nat} {o : Oper} {v : AV} {ob : Ob} {s : Sem Value} (him : i < M) (hr : Rdy ops S i o) (hi : Inv P ops M T G nE E0 a0 Ds S E a) (hG : G (i + 1) = (G i).push ob) (hl : ob.live) (hD : ∀ d, o.dst = some d → d ∈ Ds)
    (hn : News P E (G i).n s v ob) (he : execOp a.eval o = (do pure (.value (← s)))) (hT : T (i + 1) = putA (T i) o.dst v) :
    ∃ E', Done P E o a v E' ∧ ∀ val, V E' v val → Inv P ops M T G nE E0 a0 Ds (Plus S i) E' (a.put o.dst val) := by
  obtain ⟨u, ob', w0, h1, h2, h3, h4, h5, h6⟩ := hn
  have hfr := fresh_at D him hr hi
  have hn1 : (G (i + 1)).n = (G i).n + 1 := by rw [hG]; rfl
  have hf : E.mu (G i).n = none := hfr _ (Nat.le_refl _) (by omega)
  obtain ⟨h7, h8⟩ := h6 _ rfl hf
  have e1 := drew_ext (G i).n h2 h3 h4 h5
  have s1 := hi.sat.of_heap h2 fun x v hv => hv.mono e1 (fresh_refl E _)
  have hext := e1.trans (alloc_ext ({ E with w := w0 } : Env) (G i).n ob') (fun id h9 h10 => (by rw [show id = (G i).n from by omega]; exact hf))
  have hsat := s1.alloc hf h8
  have hmono0 := D.mono (i := 0) (j := i) (by omega) (by omega)
  have hmonoM := D.mono (i := i + 1) (j := M) (by omega) (Nat.le_refl _)
  have hle := D.le
  have hAff : ∀ id, Aff G i id ↔ id = (G i).n := fun id => by
    unfold Aff
    rw [hG, Heap.get_push]
    constructor
    · intro h
      exact Classical.byContradiction fun hn => h (by simp [hn])
    · rintro rfl
      rw [Heap.get_far (Nat.le_refl _)]
      simp only [if_true]
      intro e
      rw [← e] at hl
      exact hl
  have hg : gS M G (Plus S i) = fun id => if id = (G i).n then ob else gS M G S id := funext fun id => by
    by_cases hid : id = (G i).n
    · rw [if_pos hid, gS_aff D him hr hi ((hAff id).2 hid), hG, Heap.get_push]; exact if_pos hid
    · rw [if_neg hid]
      exact gS_same fun h => hid ((hAff id).1 h)
  refine ⟨({ E with w := w0 } : Env).alloc (G i).n ob', .of_run he h1 h7, fun val hval => ?_⟩
  refine ⟨plus_lt him hi, plus_closed hr hi, hi.ext.inside hext hmono0 (by omega), by rw [hg]; exact hsat, fun id p g1 g2 g3 => ?_, fun k ok hk hok hc hw id b o1 o2 g1 g2 g3 => ?_, ?_, (put_defers _ _ _).trans hi.defers, (put_size _ _ _).trans hi.size, fun t ht => ?_⟩
  · by_cases hid : id = (G i).n
    · exact ⟨i, .inr rfl, by omega, by omega⟩
    · simp only [Env.alloc, hid, if_false] at g1
      obtain ⟨k, hk, h⟩ := hi.dom id p g1 g2 g3
      exact ⟨k, .inl hk, h⟩
  · -- the new block is none of the others
    simp only [Env.alloc] at g2 g3
    have hsz : w0.heap.size = E.w.heap.size := by rw [h2]
    by_cases hki : k = i
    · subst hki
      rw [if_pos rfl] at g3
      rw [if_neg (by omega)] at g2
      have := hi.sat.muLt id b o1 g2
      cases g3
      omega
    · have hSk : S k := by rcases hk with hk | hk; exact hk; exact absurd hk hki
      have hkM := hi.lt k hSk
      have hkn : (G k).n ≠ (G i).n := by
        rcases Nat.lt_or_ge k i with h | h
        · obtain ⟨ok', hok', hs'⟩ := D.tr.step k hkM
          rw [hok] at hok'; cases hok'
          obtain ⟨obk, ek, _⟩ := (stepA_heap D.hcall hs' (D.wf (by omega))).2.1 hw hc
          have : (G (k + 1)).n = (G k).n + 1 := by rw [ek]; rfl
          have := D.mono (i := k + 1) (j := i) (by omega) (by omega)
          omega
        · have := D.mono (i := i + 1) (j := k) (by omega) (by omega)
          omega
      rw [if_neg hkn] at g3
      by_cases hid : id = (G i).n
      · rw [if_pos hid] at g2
        have := hi.sat.muLt _ b o2 g3
        cases g2
        omega
      · rw [if_neg hid] at g2
        exact hi.sep k ok hSk hok hc hw id b o1 o2 g1 g2 g3
  · exact tms_put D him hr (fun x u h => h.mono hext fun id h9 h10 => (by rw [show id = (G i).n from by omega]; exact hf)) hval hT hi.tms
  · rw [put_other _ _ fun e => ht (hD t e)]; exact hi.keep t ht
end Go.Ab

/- The abstract machine: operations that write, in a region in any order; the region. -/
namespace Go.Ab
set_option linter.unusedSectionVars false
variable [HasBase]
set_option linter.unusedVariables false
set_option linter.unusedSimpArgs false

variable {P : Program} {call : CallFn} {ops : Array Oper} {M : Nat} {T : Nat → List AV} {G : Nat → Heap} {nE : Nat}
  {E0 : Env} {a0 : Act} {Ds : List Tmp} {S : Nat → Prop} {E : Env} {a : Act}

/-- A store. -/
theorem inv_store (D : DR P call ops M T G nE) {i id off : Nat} {o : Oper} {ob : Ob} {t : TypeId} {x y : Operand} (him : i < M) (hr : Rdy ops S i o) (hi : Inv P ops M T G nE E0 a0 Ds S E a) (hc : clsOf P o.op = .store) (hw : wantedA ops o (T i) = true)
    (hop : o.op = .store t x y) (hx : ev (T i) x = some (.ptr id off)) (hG : G (i + 1) = (G i).set id ob) (hid : id < (G i).n) (hD : ∀ d, o.dst = some d → d ∈ Ds) (hT : T (i + 1) = putA (T i) o.dst .undef)
    (hmu : ∃ p, E.mu id = some p)
    (hst : ∀ n, gS M G S id = (G i).get id → id < n → ∃ E', Done P E o a .undef E' ∧ Ext E E' n n ∧ Sat E' (upd (gS M G S) id ob)) :
    ∃ E', Done P E o a .undef E' ∧ ∀ val, V E' .undef val → Inv P ops M T G nE E0 a0 Ds (Plus S i) E' (a.put o.dst val) := by
  obtain ⟨p, hmu⟩ := hmu
  have hview := view_eq D (fun ob => ob) (by omega) hr hi hid hmu fun k ok h1 h2 h3 h4 => by
    have := D.chk i k o ok him h1 hr.op h2 h4 h3 (.inr (.inl hc)) hw
    unfold PairFact at this
    rw [hop] at this
    exact this id off hx
  have hmono0 := D.mono (i := 0) (j := i) (by omega) (by omega)
  have hmonoM := D.mono (i := i + 1) (j := M) (by omega) (Nat.le_refl _)
  have hn1 : (G (i + 1)).n = (G i).n := by rw [hG]; rfl
  have hle := D.le
  obtain ⟨E', hd, hext, hsat⟩ := hst (G i).n hview hid
  have hmu' : ∀ j, E'.mu j = E.mu j := fun j => hext.muOut j (by omega)
  have hg : gS M G (Plus S i) = upd (gS M G S) id ob := funext fun j => by
    unfold upd
    have hget := Heap.get_set ob (D.wf (i := i) (by omega)) hid
    by_cases hA : Aff G i j
    · rw [gS_aff D him hr hi hA, hG, hget]
      by_cases hj : j = id
      · simp only [hj, if_true]
      · exfalso
        apply hA
        rw [hG, hget]
        simp only [hj, if_false]
    · have h1 : gS M G (Plus S i) j = gS M G S j := gS_same hA
      rw [h1]
      by_cases hj : j = id
      · subst hj
        rw [if_pos rfl, hview]
        have : (G i).get j = (G (i + 1)).get j := Classical.byContradiction fun h => hA h
        rw [this, hG, hget]
        simp
      · rw [if_neg hj]
  refine ⟨E', hd, fun val hval => ?_⟩
  refine ⟨plus_lt him hi, plus_closed hr hi, hi.ext.inside hext (by omega) (by omega), by rw [hg]; exact hsat, fun j p g1 g2 g3 => ?_, fun k ok hk hok hcn hwn j b o1 o2 g1 g2 g3 => ?_, ?_, (put_defers _ _ _).trans hi.defers, (put_size _ _ _).trans hi.size, fun t ht => ?_⟩
  · rw [hmu'] at g1
    obtain ⟨k, hk, h⟩ := hi.dom j p g1 g2 g3
    exact ⟨k, .inl hk, h⟩
  · rw [hmu'] at g2 g3
    rcases hk with hk | rfl
    · exact hi.sep k ok hk hok hcn hwn j b o1 o2 g1 g2 g3
    · rw [hr.op] at hok; cases hok
      rw [hc] at hcn; cases hcn
  · exact tms_put D him hr (fun x u h => h.mono hext (fresh_refl E _)) hval hT hi.tms
  · rw [put_other _ _ fun e => ht (hD t e)]; exact hi.keep t ht

/-- An operation that may write anything. -/
theorem inv_writer (D : DR P call ops M T G nE) {i : Nat} {o : Oper} {v : AV} {val : Value} {E' : Env} (him : i < M) (hr : Rdy ops S i o) (hi : Inv P ops M T G nE E0 a0 Ds S E a) (hc : clsOf P o.op = .other ∨ clsOf P o.op = .writer)
    (hD : ∀ d, o.dst = some d → d ∈ Ds) (hT : T (i + 1) = putA (T i) o.dst v) (hext : Ext E E' (G i).n (G (i + 1)).n) (hsat : Sat E' (G (i + 1)).get) (hval : V E' v val) :
    Inv P ops M T G nE E0 a0 Ds (Plus S i) E' (a.put o.dst val) := by
  have hfr := fresh_at D him hr hi
  have hmono0 := D.mono (i := 0) (j := i) (by omega) (by omega)
  have hmono1 := D.mono (i := i) (j := i + 1) (by omega) (by omega)
  have hmonoM := D.mono (i := i + 1) (j := M) (by omega) (Nat.le_refl _)
  have hle := D.le
  have hun := wr_un D hr hc
  -- who is in no order with i writes nothing
  have hord : ∀ k ok, k < M → k ≠ i → ops[k]? = some ok → wrC (clsOf P ok.op) → (k < i → S k) ∧ (i < k → ¬ S k) := fun k ok hk hne hok hw => by
    constructor
    · intro hlt
      refine Classical.byContradiction fun hn => hun k ok hk hok hw ⟨fun e => hne e.symm, ?_, ?_⟩
      · cases hb : (an ops k).testBit i with
        | false => rfl
        | true => have := D.low hok hb; omega
      · cases hb : (an ops i).testBit k with
        | false => rfl
        | true => exact absurd (hr.anc hi hb) hn
    · intro hlt hSk
      refine hun k ok hk hok hw ⟨fun e => hne e.symm, ?_, ?_⟩
      · cases hb : (an ops k).testBit i with
        | false => rfl
        | true => exact absurd (hi.anc hok hSk hb) hr.no
      · cases hb : (an ops i).testBit k with
        | false => rfl
        | true => have := D.low hr.op hb; omega
  -- what is made before i's end is as in the text
  have hlow : ∀ id p, E'.mu id = some p → id < (G (i + 1)).n → gS M G (Plus S i) id = (G (i + 1)).get id := fun id p hm hid => by
    refine content_eq (by omega) (fun k hk hA => ?_) (fun k h1 h2 hk hA => ?_)
    · by_cases hki : k = i
      · exact .inr hki
      · obtain ⟨ok, hok, hw, hcl⟩ := D.aff (by omega) hA
        rcases hcl with ⟨hcn, he, hn1⟩ | ⟨hcs, _⟩ | hcw
        · -- made by k: k has run
          have hm1 := D.mono (i := k + 1) (j := i) (by omega) (by omega)
          rw [hext.muOut id (by omega)] at hm
          have hm0 := D.mono (i := 0) (j := k) (by omega) (by omega)
          obtain ⟨k', hk', b1, b2⟩ := hi.dom id p hm (by omega) (by omega)
          have hkM := hi.lt k' hk'
          rcases Nat.lt_trichotomy k' k with h | h | h
          · have := D.mono (i := k' + 1) (j := k) (by omega) (by omega); omega
          · exact .inl (h ▸ hk')
          · have := D.mono (i := k + 1) (j := k') (by omega) (by omega); omega
        · exact .inl ((hord k ok (by omega) hki hok (.inr hcs)).1 (by omega))
        · exact .inl ((hord k ok (by omega) hki hok (.inl hcw)).1 (by omega))
    · have hki : k ≠ i := by omega
      have hSk : S k := by rcases hk with hk | hk; exact hk; exact absurd hk hki
      obtain ⟨ok, hok, hw, hcl⟩ := D.aff h2 hA
      rcases hcl with ⟨hcn, he, hn1⟩ | ⟨hcs, _⟩ | hcw
      · have := D.mono (i := i + 1) (j := k) h1 (by omega); omega
      · exact (hord k ok h2 hki hok (.inr hcs)).2 (by omega) hSk
      · exact (hord k ok h2 hki hok (.inl hcw)).2 (by omega) hSk
  -- what is made later has a block of its own
  have hhigh : ∀ id b o1, E.mu id = some (b, o1) → (G (i + 1)).n ≤ id → id < nE → ∀ id0 o0, id0 < id → E.mu id0 ≠ some (b, o0) := fun id b o1 hm h1 h2 id0 o0 hlt hm0 => by
    obtain ⟨k, hk, b1, b2⟩ := hi.dom id _ hm (by omega) h2
    have hkM := hi.lt k hk
    have hki : i < k := by
      rcases Nat.lt_or_ge i k with h | h
      · exact h
      · have := D.mono (i := k + 1) (j := i + 1) (by omega) (by omega); omega
    obtain ⟨ok, hok, hs'⟩ := D.tr.step k hkM
    obtain ⟨q1, q2, q3⟩ := stepA_heap D.hcall hs' (D.wf (by omega))
    have hne : G (k + 1) ≠ G k := fun e => by rw [e] at b2; omega
    have hw : wantedA ops ok (T k) = true := by
      cases hw : wantedA ops ok (T k) with
      | true => rfl
      | false => exact absurd (q1 (.inl hw)) hne
    cases hq : clsOf P ok.op with
    | new =>
      obtain ⟨obk, ek, _⟩ := q2 hw hq
      have : (G (k + 1)).n = (G k).n + 1 := by rw [ek]; rfl
      have hidk : id = (G k).n := by omega
      subst hidk
      exact hi.sep k ok hk hok hq hw id0 b o0 o1 hlt hm0 hm
    | store =>
      obtain ⟨id', off, ob, t, x, y, ek, _⟩ := q3 hw hq
      have : (G (k + 1)).n = (G k).n := by rw [ek]; rfl
      omega
    | writer => exact (hord k ok hkM (by omega) hok (.inl hq)).2 hki hk
    | quiet => exact hne (q1 (.inr (by rw [hq]; simp)))
    | load => exact hne (q1 (.inr (by rw [hq]; simp)))
    | other => exact hne (q1 (.inr (by rw [hq]; simp)))
  have hgold : ∀ id, (G (i + 1)).n ≤ id → gS M G (Plus S i) id = gS M G S id := fun id h => gS_same fun hA => by
    have := D.aff_lt him hA; omega
  have hfar : ∀ id, nE ≤ id → gS M G S id = .dead := fun id h => by
    unfold gS
    obtain ⟨_, a2, _⟩ := tau_spec (fun k => ¬ S k ∧ Aff G k id) M 0
    have := D.mono (i := tau (fun k => ¬ S k ∧ Aff G k id) M 0) (j := M) (by omega) (Nat.le_refl _)
    exact Heap.get_far (by omega)
  have hmono : ∀ x u, V E x u → V E' x u := fun x u h => h.mono hext hfr
  refine ⟨plus_lt him hi, plus_closed hr hi, hi.ext.inside hext hmono0 (by omega), ?_, fun j p g1 g2 g3 => ?_, fun k ok hk hok hcn hwn j b o1 o2 g1 g2 g3 => ?_, ?_, (put_defers _ _ _).trans hi.defers, (put_size _ _ _).trans hi.size, fun t ht => ?_⟩
  · -- memory
    refine ⟨hsat.muLt, hsat.permLt, hsat.permOwn, fun id b o' hm => ?_, hsat.base, fun id id' b o1 o2 h1 h2 h3 h4 => ?_⟩
    · rcases Nat.lt_or_ge id (G (i + 1)).n with h | h
      · rw [hlow id _ hm h]; exact hsat.ob id b o' hm
      · rw [hgold id h]
        rcases Nat.lt_or_ge id nE with hE | hE
        · rw [hext.muOut id (by omega)] at hm
          refine (hi.sat.ob id b o' hm).mono_of (hext.frame b (hi.sat.muLt id b o' hm) fun id0 o0 hlt hm0 => ?_) hmono
          exact hhigh id b o' hm h hE id0 o0 (by omega) hm0
        · rw [hfar id hE]; trivial
    · have mixed : ∀ id id' o1 o2, E'.mu id = some (b, o1) → E'.mu id' = some (b, o2) → (gS M G (Plus S i) id').live → id < (G (i + 1)).n → (G (i + 1)).n ≤ id' → False := fun id id' o1 o2 m1 m2 l2 hlt hge => by
        rw [hgold id' hge] at l2
        have hE : id' < nE := by
          rcases Nat.lt_or_ge id' nE with h | h
          · exact h
          · rw [hfar id' h] at l2; exact l2.elim
        rw [hext.muOut id' (by omega)] at m2
        by_cases hin : (G i).n ≤ id
        · rcases hext.muNew id b o1 hin hlt m1 with h | ⟨id0, o0, q1, q2⟩
          · have := hi.sat.muLt id' b o2 m2; omega
          · exact hhigh id' b o2 m2 hge hE id0 o0 (by omega) q2
        · rw [hext.muOut id (by omega)] at m1
          exact hhigh id' b o2 m2 hge hE id o1 (by omega) m1
      rcases Nat.lt_or_ge id (G (i + 1)).n with ha | ha
      · rcases Nat.lt_or_ge id' (G (i + 1)).n with hb | hb
        · rw [hlow id _ h1 ha] at h3
          rw [hlow id' _ h2 hb] at h4
          exact hsat.inj id id' b o1 o2 h1 h2 h3 h4
        · exact (mixed id id' o1 o2 h1 h2 h4 ha hb).elim
      · rcases Nat.lt_or_ge id' (G (i + 1)).n with hb | hb
        · exact (mixed id' id o2 o1 h2 h1 h3 hb ha).elim
        · rw [hgold id ha] at h3
          rw [hgold id' hb] at h4
          rw [hext.muOut id (by omega)] at h1
          rw [hext.muOut id' (by omega)] at h2
          exact hi.sat.inj id id' b o1 o2 h1 h2 h3 h4
  · by_cases hin : (G i).n ≤ j ∧ j < (G (i + 1)).n
    · exact ⟨i, .inr rfl, hin.1, hin.2⟩
    · rw [hext.muOut j hin] at g1
      obtain ⟨k, hk, h⟩ := hi.dom j p g1 g2 g3
      exact ⟨k, .inl hk, h⟩
  · by_cases hki : k = i
    · subst hki
      rw [hr.op] at hok; cases hok
      rcases hc with hc | hc <;> (rw [hc] at hcn; cases hcn)
    · have hSk : S k := by rcases hk with hk | hk; exact hk; exact absurd hk hki
      have hkM := hi.lt k hSk
      obtain ⟨ok', hok', hs'⟩ := D.tr.step k hkM
      rw [hok] at hok'; cases hok'
      obtain ⟨obk, ek, _⟩ := (stepA_heap D.hcall hs' (D.wf (by omega))).2.1 hwn hcn
      have hk1 : (G (k + 1)).n = (G k).n + 1 := by rw [ek]; rfl
      rcases Nat.lt_or_ge k i with h | h
      · have := D.mono (i := k + 1) (j := i) (by omega) (by omega)
        rw [hext.muOut _ (by omega)] at g3
        rw [hext.muOut j (by omega)] at g2
        exact hi.sep k ok hSk hok hcn hwn j b o1 o2 g1 g2 g3
      · have h1 := D.mono (i := i + 1) (j := k) (by omega) (by omega)
        have h2 := D.mono (i := k + 1) (j := M) (by omega) (Nat.le_refl _)
        rw [hext.muOut _ (by omega)] at g3
        by_cases hin : (G i).n ≤ j ∧ j < (G (i + 1)).n
        · rcases hext.muNew j b o1 hin.1 hin.2 g2 with h | ⟨id0, o0, q1, q2⟩
          · have := hi.sat.muLt _ b o2 g3; omega
          · exact hi.sep k ok hSk hok hcn hwn id0 b o0 o2 (by omega) q2 g3
        · rw [hext.muOut j hin] at g2
          exact hi.sep k ok hSk hok hcn hwn j b o1 o2 g1 g2 g3
  · exact tms_put D him hr hmono hval hT hi.tms
  · rw [put_other _ _ fun e => ht (hD t e)]; exact hi.keep t ht
end Go.Ab
