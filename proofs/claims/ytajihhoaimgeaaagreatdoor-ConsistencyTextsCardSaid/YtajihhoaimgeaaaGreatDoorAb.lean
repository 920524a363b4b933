/- The abstract machine: what an abstract value says of a machine's value in a world; how that lasts while the world grows. -/
import Derived.Test.YtajihhoaimgeaaaGreatDoorAa
import Derived.Laws.StructEq
import Derived.ChangeKeysEq
set_option linter.unusedVariables false
set_option linter.unusedSimpArgs false
set_option linter.unusedSectionVars false
set_option linter.unnecessarySimpa false
namespace Go.Ab
set_option linter.unusedVariables false

/-- Blocks that stand from the first world on (tables of the library's). -/
class HasBase where
  B : Nat → Option Obj
variable [HasBase]

structure Env where
  mu : Nat → Option (Nat × Nat)
  perm : Nat → Prop
  w : World

def Env.own (E : Env) (b : Nat) : Prop := ∃ id o, E.mu id = some (b, o)
def Env.imm (E : Env) (tmp : Bool) (b : Nat) : Prop := b < E.w.heap.size ∧ ¬ E.own b ∧ (tmp = false → E.perm b)

/-- Nothing of the heap; with 'false': nothing lent either. -/
inductive Cl : Bool → AV → Prop where
  | undef (t) : Cl t .undef
  | bool (t) (b) : Cl t (.bool b)
  | int (t) (k n) : Cl t (.int k n)
  | str (t) (s) : Cl t (.str s)
  | nilp (t) : Cl t .nilp
  | nils (t) : Cl t .nils
  | nilm (t) : Cl t .nilm
  | nilf (t) : Cl t .nilf
  | nili (t) : Cl t .nili
  | eptr (t u) (cs : List AV) (off) : (u = true → t = true) → (∀ x, x ∈ cs → Cl u x) → Cl t (.eptr u cs off)
  | isl (t u) (rows : List (List AV)) : (u = true → t = true) → (∀ r x, r ∈ rows → x ∈ r → Cl u x) → Cl t (.isl u rows)
  | fn (t) (f) (cap : List AV) : (∀ x, x ∈ cap → Cl t x) → Cl t (.fn f cap)
  | ifc (t) (ty v) : Cl t v → Cl t (.ifc ty v)
  | agg (t) (cs : List AV) : (∀ x, x ∈ cs → Cl t x) → Cl t (.agg cs)
  | tup (t) (cs : List AV) : (∀ x, x ∈ cs → Cl t x) → Cl t (.tup cs)

inductive V (E : Env) : AV → Value → Prop where
  | undef : V E .undef undef
  | bool (b) : V E (.bool b) (.bool b)
  | int (k n) : V E (.int k n) (.int k n)
  | str (l : List UInt8) (s : ByteArray) : s.data.toList = l → V E (.str l) (.string s)
  | ptr (id off b o : Nat) : E.mu id = some (b, o) → V E (.ptr id off) (.pointer (some ⟨b, o + off, none⟩))
  | eptr (tmp : Bool) (cs : List AV) (off b o : Nat) (vs : Nat → Value) : E.imm tmp b → (∀ x, x ∈ cs → x.isCell = true) → (∀ x, x ∈ cs → Cl tmp x) →
      (∀ j x, cs[j]? = some x → E.w.cell? ⟨b, o + j, none⟩ = some (vs j)) → (∀ j x, cs[j]? = some x → V E x (vs j)) → V E (.eptr tmp cs off) (.pointer (some ⟨b, o + off, none⟩))
  | nilp : V E .nilp (.pointer none)
  | sl (id off off' len cap esz b o e n : Nat) : E.mu id = some (b, o) → len ≤ cap → (cap = 0 ∨ off' = off) → E.w.shape? b = some (e, n) → o + off' + cap * esz ≤ n →
      V E (.sl id off len esz) (.slice (some ⟨b, o + off', none⟩) len cap)
  | islE (tmp : Bool) (a : Addr) (cap : Nat) : V E (.isl tmp []) (.slice (some a) 0 cap)
  | isl (tmp : Bool) (rows : List (List AV)) (esz b o cap : Nat) (vs : Nat → Value) : E.imm tmp b → (∀ r, r ∈ rows → r.length = esz) → (∀ r x, r ∈ rows → x ∈ r → x.isCell = true) →
      (∀ r x, r ∈ rows → x ∈ r → Cl tmp x) → rows.length ≤ cap →
      (∀ j x, rows.flatten[j]? = some x → E.w.cell? ⟨b, o + j, none⟩ = some (vs j)) → (∀ j x, rows.flatten[j]? = some x → V E x (vs j)) →
      V E (.isl tmp rows) (.slice (some ⟨b, o, none⟩) rows.length cap)
  | nils : V E .nils (.slice none 0 0)
  | map (id b o : Nat) : E.mu id = some (b, o) → V E (.map id) (.map (some b))
  | nilm : V E .nilm (.map none)
  | fn (f : FuncId) (cap : List AV) (vs : Array Value) : cap.length = vs.size → (∀ (j : Nat) x v, cap[j]? = some x → vs[j]? = some v → V E x v) → V E (.fn f cap) (.func (.func f) #[] vs)
  | nilf : V E .nilf .nilFunc
  | ifc (t : TypeId) (x : AV) (v : Value) : V E x v → V E (.ifc t x) (.iface t v)
  | nili : V E .nili .nilIface
  | agg (cs : List AV) (vs : Array Value) : cs.length = vs.size → (∀ (j : Nat) x v, cs[j]? = some x → vs[j]? = some v → V E x v) → V E (.agg cs) (.agg vs)
  | tup (cs : List AV) (vs : Array Value) : cs.length = vs.size → (∀ (j : Nat) x v, cs[j]? = some x → vs[j]? = some v → V E x v) → V E (.tup cs) (.tuple vs)

/-- Value by value. -/
def VL (E : Env) (xs : List AV) (vs : List Value) : Prop := xs.length = vs.length ∧ ∀ (j : Nat) x v, xs[j]? = some x → vs[j]? = some v → V E x v

/-- A row of cells from an address on. -/
def At (E : Env) (b o : Nat) (cs : List AV) : Prop := ∀ j x, cs[j]? = some x → x.isCell = true ∧ ∃ v, E.w.cell? ⟨b, o + j, none⟩ = some v ∧ V E x v

structure RowAt (E : Env) (b o : Nat) (bx : Bool) (e : TypeId) (cs : List AV) (c : Array Value) (lo hi : Nat) : Prop where
  blk : E.w.heap[b]? = some (.cells c e (lo, hi))
  free : ∀ i, i < c.size → ¬ (lo ≤ i ∧ i < hi)
  room : o + cs.length ≤ c.size
  exact : bx = true → o = 0 ∧ c.size = cs.length
  at_ : At E b o cs

structure MapAt (E : Env) (b : Nat) (es : List (AV × AV)) (ents : Array MapEntry) (clock : Nat) : Prop where
  blk : E.w.heap[b]? = some (.map ents clock)
  len : ents.size = es.length
  key : ∀ (j : Nat) p en, es[j]? = some p → ents[j]? = some en → V E p.1 en.key ∧ V E p.2 en.val

def ObRel (E : Env) (b o : Nat) : Ob → Prop
  | .dead => True
  | .row bx e cs => ∃ c lo hi, RowAt E b o bx e cs c lo hi
  | .map es => ∃ ents clock, MapAt E b es ents clock

def Ob.live : Ob → Prop
  | .dead => False
  | _ => True

structure Sat (E : Env) (g : Nat → Ob) : Prop where
  muLt : ∀ id b o, E.mu id = some (b, o) → b < E.w.heap.size
  permLt : ∀ b, E.perm b → b < E.w.heap.size
  permOwn : ∀ b, E.perm b → ¬ E.own b
  ob : ∀ id b o, E.mu id = some (b, o) → ObRel E b o (g id)
  base : ∀ b o, HasBase.B b = some o → E.perm b ∧ E.w.heap[b]? = some o
  inj : ∀ id id' b o o', E.mu id = some (b, o) → E.mu id' = some (b, o') → (g id).live → (g id').live → id = id'

def Heap.wf (H : Heap) : Prop := H.l.length = H.n

/-- Ids from n on, below n', are not taken. -/
def Fresh (E : Env) (n n' : Nat) : Prop := ∀ id, n ≤ id → id < n' → E.mu id = none

structure Ext (E E' : Env) (n n' : Nat) : Prop where
  le : n ≤ n'
  muOut : ∀ id, ¬ (n ≤ id ∧ id < n') → E'.mu id = E.mu id
  muNew : ∀ id b o, n ≤ id → id < n' → E'.mu id = some (b, o) → E.w.heap.size ≤ b ∨ (∃ id0 o0, id0 < n ∧ E.mu id0 = some (b, o0))
  size : E.w.heap.size ≤ E'.w.heap.size
  perm : ∀ b, E.perm b → E'.perm b
  permNew : ∀ b, E'.perm b → E.perm b ∨ E.w.heap.size ≤ b
  frame : ∀ b, b < E.w.heap.size → (∀ id o, id < n → E.mu id ≠ some (b, o)) → E'.w.heap[b]? = E.w.heap[b]?
  shape : ∀ b s, E.w.shape? b = some s → E'.w.shape? b = some s
  os : E'.w.os = E.w.os
  tape : E'.w.tape = E.w.tape
  output : E'.w.output = E.w.output

theorem Ext.refl (E : Env) (n : Nat) : Ext E E n n :=
  ⟨Nat.le_refl _, fun _ _ => rfl, fun _ _ _ h1 h2 => absurd h2 (by omega), Nat.le_refl _, fun _ h => h, fun _ h => .inl h, fun _ _ _ => rfl, fun _ _ h => h, rfl, rfl, rfl⟩

theorem Ext.mu {E E' : Env} {n n' id : Nat} {p : Nat × Nat} (h : Ext E E' n n') (hf : Fresh E n n') (hm : E.mu id = some p) : E'.mu id = some p := by
  rw [h.muOut id ?_]; exact hm
  rintro ⟨h1, h2⟩
  rw [hf id h1 h2] at hm; cases hm

theorem Ext.own {E E' : Env} {n n' b : Nat} (h : Ext E E' n n') (hb : b < E.w.heap.size) (ho : E'.own b) : E.own b := by
  obtain ⟨id, o, hid⟩ := ho
  by_cases hr : n ≤ id ∧ id < n'
  · rcases h.muNew id b o hr.1 hr.2 hid with h1 | ⟨id0, o0, _, h2⟩
    · omega
    · exact ⟨id0, o0, h2⟩
  · rw [h.muOut id hr] at hid; exact ⟨id, o, hid⟩

theorem Ext.imm {E E' : Env} {n n' b : Nat} {tmp : Bool} (h : Ext E E' n n') (hi : E.imm tmp b) : E'.imm tmp b :=
  ⟨Nat.lt_of_lt_of_le hi.1 h.size, fun ho => hi.2.1 (h.own hi.1 ho), fun ht => h.perm _ (hi.2.2 ht)⟩

theorem cell_of_block {w w' : World} {b : Nat} (h : w'.heap[b]? = w.heap[b]?) (o : Nat) : w'.cell? ⟨b, o, none⟩ = w.cell? ⟨b, o, none⟩ := by
  simp only [World.cell?, h]

theorem shape_of_block {w w' : World} {b : Nat} (h : w'.heap[b]? = w.heap[b]?) : w'.shape? b = w.shape? b := by
  simp only [World.shape?, h]

theorem Ext.immCell {E E' : Env} {n n' b : Nat} {tmp : Bool} (h : Ext E E' n n') (hi : E.imm tmp b) (o : Nat) : E'.w.cell? ⟨b, o, none⟩ = E.w.cell? ⟨b, o, none⟩ :=
  cell_of_block (h.frame b hi.1 fun id o _ hm => hi.2.1 ⟨id, o, hm⟩) o

theorem V.mono {E E' : Env} {n n' : Nat} (h : Ext E E' n n') (hf : Fresh E n n') {x : AV} {v : Value} (hv : V E x v) : V E' x v := by
  induction hv with
  | undef => exact .undef
  | bool b => exact .bool b
  | int k n => exact .int k n
  | str l s e => exact .str l s e
  | ptr id off b o hm => exact .ptr id off b o (h.mu hf hm)
  | eptr tmp cs off b o vs hi hc hcl hcell _ ih => exact .eptr tmp cs off b o vs (h.imm hi) hc hcl (fun j x hj => by rw [h.immCell hi]; exact hcell j x hj) ih
  | nilp => exact .nilp
  | sl id off off' len cap esz b o e n hm hl ho hs hr => exact .sl id off off' len cap esz b o e n (h.mu hf hm) hl ho (h.shape _ _ hs) hr
  | islE tmp a cap => exact .islE tmp a cap
  | isl tmp rows esz b o cap vs hi hr hc hcl hl hcell _ ih => exact .isl tmp rows esz b o cap vs (h.imm hi) hr hc hcl hl (fun j x hj => by rw [h.immCell hi]; exact hcell j x hj) ih
  | nils => exact .nils
  | map id b o hm => exact .map id b o (h.mu hf hm)
  | nilm => exact .nilm
  | fn f cap vs hl _ ih => exact .fn f cap vs hl ih
  | nilf => exact .nilf
  | ifc t x v _ ih => exact .ifc t x v ih
  | nili => exact .nili
  | agg cs vs hl _ ih => exact .agg cs vs hl ih
  | tup cs vs hl _ ih => exact .tup cs vs hl ih

theorem VL.mono {E E' : Env} {n n' : Nat} (h : Ext E E' n n') (hf : Fresh E n n') {xs : List AV} {vs : List Value} (hv : VL E xs vs) : VL E' xs vs :=
  ⟨hv.1, fun j x v h1 h2 => (hv.2 j x v h1 h2).mono h hf⟩

theorem VL.nil (E : Env) : VL E [] [] := ⟨rfl, fun j x v h => by simp at h⟩
theorem VL.cons {E : Env} {x : AV} {v : Value} {xs : List AV} {vs : List Value} (h : V E x v) (hs : VL E xs vs) : VL E (x :: xs) (v :: vs) := by
  refine ⟨by simp [hs.1], fun j y u h1 h2 => ?_⟩
  cases j with
  | zero => simp at h1 h2; subst h1; subst h2; exact h
  | succ j => simp at h1 h2; exact hs.2 j y u h1 h2
theorem VL.inv {E : Env} {x : AV} {xs : List AV} {vs : List Value} (h : VL E (x :: xs) vs) : ∃ v us, vs = v :: us ∧ V E x v ∧ VL E xs us := by
  cases vs with
  | nil => simp [VL] at h
  | cons v us => exact ⟨v, us, rfl, h.2 0 x v rfl rfl, by simpa using h.1, fun j y u h1 h2 => h.2 (j + 1) y u (by simpa using h1) (by simpa using h2)⟩
theorem VL.inv_nil {E : Env} {vs : List Value} (h : VL E [] vs) : vs = [] := by
  cases vs with
  | nil => rfl
  | cons v us => simp [VL] at h
theorem VL.append {E : Env} {xs ys : List AV} {vs us : List Value} (h : VL E xs vs) (k : VL E ys us) : VL E (xs ++ ys) (vs ++ us) := by
  induction xs generalizing vs with
  | nil => rw [h.inv_nil]; exact k
  | cons x xs ih => obtain ⟨v, ws, rfl, h1, h2⟩ := h.inv; exact .cons h1 (ih h2)
theorem VL.take {E : Env} {xs : List AV} {vs : List Value} (h : VL E xs vs) (n : Nat) : VL E (xs.take n) (vs.take n) := by
  refine ⟨by simp [h.1], fun j x v h1 h2 => ?_⟩
  rw [List.getElem?_take] at h1 h2
  split at h1
  · rw [if_pos ‹_›] at h2; exact h.2 j x v h1 h2
  · cases h1
theorem VL.drop {E : Env} {xs : List AV} {vs : List Value} (h : VL E xs vs) (n : Nat) : VL E (xs.drop n) (vs.drop n) := by
  refine ⟨by simp [h.1], fun j x v h1 h2 => ?_⟩
  rw [List.getElem?_drop] at h1 h2
  exact h.2 _ x v h1 h2
theorem VL.get {E : Env} {xs : List AV} {vs : List Value} (h : VL E xs vs) {j : Nat} {x : AV} (hx : xs[j]? = some x) : ∃ v, vs[j]? = some v ∧ V E x v := by
  have hj : j < vs.length := by rw [← h.1]; exact (List.getElem?_eq_some_iff.1 hx).1
  exact ⟨vs[j], by simp [hj], h.2 j x _ hx (by simp [hj])⟩
theorem VL.set {E : Env} {xs : List AV} {vs : List Value} (h : VL E xs vs) (d : Nat) {x : AV} {v : Value} (hx : V E x v) : VL E (xs.set d x) (vs.set d v) := by
  refine ⟨by simp [h.1], fun j y u h1 h2 => ?_⟩
  rw [List.getElem?_set] at h1 h2
  split at h1
  · rename_i he; subst he
    rw [if_pos rfl] at h2
    split at h1
    · rw [if_pos (by rw [← h.1]; assumption)] at h2; cases h1; cases h2; exact hx
    · cases h1
  · rw [if_neg (by assumption)] at h2; exact h.2 j y u h1 h2
theorem VL.replicate (E : Env) (n : Nat) : VL E (List.replicate n .undef) (List.replicate n undef) := by
  refine ⟨by simp, fun j x v h1 h2 => ?_⟩
  rw [List.getElem?_replicate] at h1 h2
  split at h1
  · rw [if_pos ‹_›] at h2; cases h1; cases h2; exact .undef
  · cases h1

theorem At.mono_of {E E' : Env} {b o : Nat} {cs : List AV} (h : At E b o cs) (hb : E'.w.heap[b]? = E.w.heap[b]?) (hv : ∀ x v, V E x v → V E' x v) : At E' b o cs := fun j x hj => by
  obtain ⟨hc, v, h1, h2⟩ := h j x hj
  exact ⟨hc, v, by rw [cell_of_block hb]; exact h1, hv _ _ h2⟩

theorem ObRel.mono_of {E E' : Env} {b o : Nat} {ob : Ob} (h : ObRel E b o ob) (hb : E'.w.heap[b]? = E.w.heap[b]?) (hv : ∀ x v, V E x v → V E' x v) : ObRel E' b o ob := by
  cases ob with
  | dead => trivial
  | row bx e cs =>
    obtain ⟨c, lo, hi, r⟩ := h
    exact ⟨c, lo, hi, by rw [hb]; exact r.blk, r.free, r.room, r.exact, r.at_.mono_of hb hv⟩
  | map es =>
    obtain ⟨ents, clock, r⟩ := h
    exact ⟨ents, clock, by rw [hb]; exact r.blk, r.len, fun j p en h1 h2 => ⟨hv _ _ (r.key j p en h1 h2).1, hv _ _ (r.key j p en h1 h2).2⟩⟩

theorem Ext.trans {E E' E'' : Env} {n n' n'' : Nat} (h : Ext E E' n n') (k : Ext E' E'' n' n'') (hf : Fresh E n n'') : Ext E E'' n n'' where
  le := Nat.le_trans h.le k.le
  muOut id hid := by
    have := h.le; have := k.le
    rw [k.muOut id (by omega), h.muOut id (by omega)]
  muNew id b o h1 h2 hm := by
    by_cases hr : n' ≤ id
    · rcases k.muNew id b o hr h2 hm with h3 | ⟨id0, o0, h3, h4⟩
      · exact .inl (Nat.le_trans h.size h3)
      · by_cases hr0 : n ≤ id0
        · exact h.muNew id0 b o0 hr0 h3 h4
        · rw [h.muOut id0 (by omega)] at h4
          exact .inr ⟨id0, o0, by omega, h4⟩
    · rw [k.muOut id (by omega)] at hm
      exact h.muNew id b o h1 (by omega) hm
  size := Nat.le_trans h.size k.size
  perm b hb := k.perm _ (h.perm _ hb)
  permNew b hb := by
    rcases k.permNew b hb with h1 | h1
    · exact h.permNew b h1
    · exact .inr (Nat.le_trans h.size h1)
  frame b hb hno := by
    rw [k.frame b (Nat.lt_of_lt_of_le hb h.size) ?_, h.frame b hb hno]
    intro id o hid hm
    by_cases hr : n ≤ id
    · rcases h.muNew id b o hr hid hm with h3 | ⟨id0, o0, h3, h4⟩
      · omega
      · exact hno id0 o0 h3 h4
    · rw [h.muOut id (by omega)] at hm; exact hno id o (by omega) hm
  shape b s hs := k.shape _ _ (h.shape _ _ hs)
  os := k.os.trans h.os
  tape := k.tape.trans h.tape
  output := k.output.trans h.output

/-- The fixed blocks stay. -/
theorem Sat.keepBase {E E' : Env} {g : Nat → Ob} {n n' : Nat} (hs : Sat E g) (h : Ext E E' n n') : ∀ b o, HasBase.B b = some o → E'.perm b ∧ E'.w.heap[b]? = some o := fun b o hb => by
  obtain ⟨h1, h2⟩ := hs.base b o hb
  exact ⟨h.perm b h1, by rw [h.frame b (hs.permLt b h1) fun id o' _ hm => hs.permOwn b h1 ⟨id, o', hm⟩]; exact h2⟩

theorem Fresh.mono {E : Env} {a b c d : Nat} (h : Fresh E a d) (h1 : a ≤ b) (h2 : c ≤ d) : Fresh E b c := fun id h3 h4 => h id (by omega) (by omega)
/-- What is free stays free behind an extension that took other ids. -/
theorem Ext.fresh {E E' : Env} {n n' a c : Nat} (h : Ext E E' n n') (hf : Fresh E a c) (hd : n' ≤ a ∨ c ≤ n) : Fresh E' a c := fun id h1 h2 => by
  have := h.le
  rw [h.muOut id (by omega)]; exact hf id h1 h2

/-! ### the heap -/
theorem Heap.get_lt {H : Heap} {id : Nat} (h : (H.get id).live) : id < H.n := by
  unfold Heap.get at h
  split at h
  · assumption
  · exact h.elim
theorem Heap.get_push_old {H : Heap} {id : Nat} (o : Ob) (h : id < H.n) : (H.push o).get id = H.get id := by
  unfold Heap.get Heap.push
  simp only [h, if_true, show id < H.n + 1 from by omega]
  rw [show H.n + 1 - 1 - id = (H.n - 1 - id) + 1 from by omega]
  simp
theorem Heap.get_push_new (H : Heap) (o : Ob) : (H.push o).get H.n = o := by
  unfold Heap.get Heap.push
  simp
theorem Heap.get_push_far {H : Heap} {id : Nat} (o : Ob) (h : H.n < id) : (H.push o).get id = .dead := by
  unfold Heap.get Heap.push
  simp only
  rw [if_neg (by omega)]
theorem Heap.get_far {H : Heap} {id : Nat} (h : H.n ≤ id) : H.get id = .dead := by
  unfold Heap.get
  rw [if_neg (by omega)]
theorem Heap.get_set_same {H : Heap} {id : Nat} (o : Ob) (hw : H.wf) (h : id < H.n) : (H.set id o).get id = o := by
  unfold Heap.get Heap.set
  simp only [h, if_true]
  have : H.n - 1 - id < H.l.length := by rw [hw]; omega
  simp [List.getElem?_set, this]
theorem Heap.get_set_other {H : Heap} {id id' : Nat} (o : Ob) (hne : id' ≠ id) (h : id < H.n) : (H.set id o).get id' = H.get id' := by
  unfold Heap.get Heap.set
  simp only
  split
  · rename_i h'
    simp [List.getElem?_set, show ¬ (H.n - 1 - id = H.n - 1 - id') from by omega]
  · rfl
theorem Heap.wf_push {H : Heap} (o : Ob) (hw : H.wf) : (H.push o).wf := by simp [Heap.wf, Heap.push] at *; exact hw
theorem Heap.wf_set {H : Heap} (id : Nat) (o : Ob) (hw : H.wf) : (H.set id o).wf := by simp [Heap.wf, Heap.set] at *; exact hw
@[simp] theorem Heap.n_push (H : Heap) (o : Ob) : (H.push o).n = H.n + 1 := rfl
@[simp] theorem Heap.n_set (H : Heap) (id : Nat) (o : Ob) : (H.set id o).n = H.n := rfl
end Go.Ab

/- The abstract machine: rows of cells in a world: reading, writing, new ones. -/
namespace Go.Ab
set_option linter.unusedSectionVars false
variable [HasBase]
set_option linter.unusedVariables false
set_option linter.unusedSimpArgs false

variable {P : Program}

def one : Value → Bool
  | .agg _ | .tuple _ => false
  | _ => true

theorem V.one {E : Env} {x : AV} {v : Value} (h : V E x v) (hc : x.isCell = true) : one v = true := by
  cases h <;> first | rfl | (simp [AV.isCell] at hc)

@[simp] theorem addr_add (b o n : Nat) : (⟨b, o, none⟩ : Addr).add n = ⟨b, o + n, none⟩ := by
  unfold Addr.add
  split
  · subst_vars; simp
  · rfl

theorem run_load {w : World} {a : Addr} {v : Value} (h : w.cell? a = some v) : (load a).run P w = .ok v w := by
  simp [load, Sem.run, h]

theorem run_loadFrom (w : World) (b o : Nat) : ∀ (vs : List Value) (i : Nat) (acc : Array Value), (∀ (j : Nat) v, vs[j]? = some v → w.cell? ⟨b, o + (i + j), none⟩ = some v) →
    (loadCellsFrom ⟨b, o, none⟩ i vs.length acc).run P w = .ok (acc ++ vs.toArray) w
  | [], i, acc, _ => by simp [loadCellsFrom]
  | v :: vs, i, acc, h => by
    simp only [List.length_cons, loadCellsFrom, addr_add, Sem.run_bind]
    rw [run_load (by simpa using h 0 v rfl)]
    simp only [Result.andThen_ok]
    rw [run_loadFrom w b o vs (i + 1) (acc.push v) fun j u hu => by
      have := h (j + 1) u (by simpa using hu)
      rwa [show o + (i + 1 + j) = o + (i + (j + 1)) from by omega]]
    simp

theorem run_loadAll {w : World} {b o : Nat} {vs : List Value} (h : ∀ (j : Nat) v, vs[j]? = some v → w.cell? ⟨b, o + j, none⟩ = some v) :
    (loadCells ⟨b, o, none⟩ vs.length).run P w = .ok vs.toArray w := by
  unfold loadCells
  rw [run_loadFrom w b o vs 0 #[] fun j v hv => by simpa using h j v hv]
  simp

/-- The values behind a row of cells. -/
theorem At.vals {E : Env} {b o : Nat} {cs : List AV} (h : At E b o cs) : ∃ vs, VL E cs vs ∧ (∀ (j : Nat) v, vs[j]? = some v → E.w.cell? ⟨b, o + j, none⟩ = some v) := by
  induction cs generalizing o with
  | nil => exact ⟨[], VL.nil E, fun j v hv => by simp at hv⟩
  | cons x cs ih =>
    obtain ⟨_, v, h1, h2⟩ := h 0 x rfl
    obtain ⟨vs, h3, h4⟩ := ih (o := o + 1) fun j y hj => by
      have := h (j + 1) y (by simpa using hj)
      rwa [show o + (j + 1) = o + 1 + j from by omega] at this
    refine ⟨v :: vs, .cons h2 h3, fun j u hu => ?_⟩
    cases j with
    | zero => simp at hu; subst hu; exact h1
    | succ j =>
      have := h4 j u (by simpa using hu)
      rwa [show o + 1 + j = o + (j + 1) from by omega] at this

theorem At.sub {E : Env} {b o : Nat} {cs : List AV} (h : At E b o cs) (off n : Nat) : At E b (o + off) ((cs.drop off).take n) := fun j x hj => by
  rw [List.getElem?_take] at hj
  split at hj
  · rw [List.getElem?_drop] at hj
    have := h _ x hj
    rwa [show o + (off + j) = o + off + j from by omega] at this
  · cases hj

theorem At.isCell {E : Env} {b o : Nat} {cs : List AV} (h : At E b o cs) : ∀ x, x ∈ cs → x.isCell = true := fun x hx => by
  obtain ⟨j, hj⟩ := List.mem_iff_getElem?.1 hx
  exact (h j x hj).1

theorem run_readRowW {E : Env} {b o n : Nat} {cs : List AV} (h : At E b o cs) (hn : cs.length = n) : ∃ vs, (∀ w : World, w.heap = E.w.heap → (loadCells ⟨b, o, none⟩ n).run P w = .ok vs.toArray w) ∧ VL E cs vs := by
  obtain ⟨vs, h1, h2⟩ := h.vals
  refine ⟨vs, fun w hw => ?_, h1⟩
  rw [← hn, h1.1]
  exact run_loadAll fun j v hv => by
    have := h2 j v hv
    simpa [World.cell?, hw] using this

theorem run_readRow {E : Env} {b o n : Nat} {cs : List AV} (h : At E b o cs) (hn : cs.length = n) : ∃ vs, (loadCells ⟨b, o, none⟩ n).run P E.w = .ok vs.toArray E.w ∧ VL E cs vs := by
  obtain ⟨vs, h1, h2⟩ := run_readRowW (P := P) h hn
  exact ⟨vs, h1 E.w rfl, h2⟩

/-! ### writing -/
/-- What a world may differ in where the block b is written. -/
structure Wrote (w w' : World) (b : Nat) : Prop where
  size : w'.heap.size = w.heap.size
  other : ∀ b', b' ≠ b → w'.heap[b']? = w.heap[b']?
  os : w'.os = w.os
  tape : w'.tape = w.tape
  output : w'.output = w.output

theorem Wrote.refl (w : World) (b : Nat) : Wrote w w b := ⟨rfl, fun _ _ => rfl, rfl, rfl, rfl⟩
theorem Wrote.trans {w w' w'' : World} {b : Nat} (h : Wrote w w' b) (k : Wrote w' w'' b) : Wrote w w'' b :=
  ⟨k.size.trans h.size, fun b' hb => (k.other b' hb).trans (h.other b' hb), k.os.trans h.os, k.tape.trans h.tape, k.output.trans h.output⟩

theorem heap_setCell_same {w : World} {b o : Nat} {c : Array Value} {e : TypeId} {lo hi : Nat} (v : Value) (h : w.heap[b]? = some (.cells c e (lo, hi))) :
    (w.setCell ⟨b, o, none⟩ v).heap[b]? = some (.cells (c.setIfInBounds o v) e (lo, hi)) := by
  simp only [World.setCell, Array.getElem?_modify, if_true, h, Option.map_some]
  simp

theorem wrote_setCell (w : World) (b o : Nat) (v : Value) : Wrote w (w.setCell ⟨b, o, none⟩ v) b :=
  ⟨by simp [World.setCell], fun b' hb => by simp only [World.setCell, Array.getElem?_modify]; rw [if_neg (Ne.symm hb)], rfl, rfl, rfl⟩

theorem cell_of_cells {w : World} {b : Nat} {c : Array Value} {e : TypeId} {fr : Nat × Nat} (h : w.heap[b]? = some (.cells c e fr)) (o : Nat) : w.cell? ⟨b, o, none⟩ = c[o]? := by
  simp [World.cell?, h]

theorem run_store {w : World} {b o : Nat} {c : Array Value} {e : TypeId} {lo hi : Nat} {v : Value} (h : w.heap[b]? = some (.cells c e (lo, hi))) (ho : o < c.size) (hf : ¬ (lo ≤ o ∧ o < hi)) (hv : one v = true) :
    (store ⟨b, o, none⟩ v).run P w = .ok () (w.setCell ⟨b, o, none⟩ v) := by
  have hc : w.cell? ⟨b, o, none⟩ = some c[o] := by rw [cell_of_cells h]; simp [ho]
  have hfr : w.frozen? ⟨b, o, none⟩ = false := by
    simp only [World.frozen?, h]
    simpa using hf
  unfold store
  cases v <;> first
    | (cases hv; done)
    | (simp only [Sem.run, hc, hfr]; simp; done)

theorem run_storeList (b o : Nat) (e : TypeId) (lo hi : Nat) : ∀ (vs : List Value) (i : Nat) (w : World) (c : Array Value), w.heap[b]? = some (.cells c e (lo, hi)) → (∀ k, k < c.size → ¬ (lo ≤ k ∧ k < hi)) →
    o + i + vs.length ≤ c.size → (∀ v, v ∈ vs → one v = true) →
    ∃ w' c', (storeCells ⟨b, o, none⟩ vs i).run P w = .ok () w' ∧ w'.heap[b]? = some (.cells c' e (lo, hi)) ∧ c'.size = c.size ∧
      (∀ (j : Nat) v, vs[j]? = some v → c'[o + i + j]? = some v) ∧ (∀ k, (k < o + i ∨ o + i + vs.length ≤ k) → c'[k]? = c[k]?) ∧ Wrote w w' b
  | [], i, w, c, hb, hfr, hlen, hv => ⟨w, c, by simp [storeCells], hb, rfl, fun j v h => by simp at h, fun k _ => rfl, .refl w b⟩
  | v :: vs, i, w, c, hb, hfr, hlen, hv => by
    simp only [List.length_cons] at hlen
    obtain ⟨w', c', h1, h2, h3, h4, h5, h6⟩ := run_storeList b o e lo hi vs (i + 1) (w.setCell ⟨b, o + i, none⟩ v) (c.setIfInBounds (o + i) v) (heap_setCell_same v hb) (by simpa using hfr) (by simp; omega) fun u hu => hv u (by simp [hu])
    refine ⟨w', c', ?_, h2, by simpa using h3, ?_, ?_, (wrote_setCell w b (o + i) v).trans h6⟩
    · simp only [storeCells, addr_add, Sem.run_bind]
      rw [run_store hb (by omega) (hfr _ (by omega)) (hv v (by simp))]
      simpa using h1
    · intro j u hu
      cases j with
      | zero =>
        simp at hu; subst hu
        rw [h5 _ (by omega)]
        simp only [Nat.add_zero]
        rw [Array.getElem?_setIfInBounds_self_of_lt (by omega)]
      | succ j =>
        have := h4 j u (by simpa using hu)
        rwa [show o + (i + 1) + j = o + i + (j + 1) from by omega] at this
    · intro k hk
      simp only [List.length_cons] at hk
      rw [h5 k (by omega)]
      rw [Array.getElem?_setIfInBounds_ne (by omega)]

/-- The env behind a write into the block b, which is one of the call's own. -/
theorem wrote_ext {E : Env} {w' : World} {b id o n : Nat} (hw : Wrote E.w w' b) (hid : E.mu id = some (b, o)) (hn : id < n) (hs : w'.shape? b = E.w.shape? b) :
    Ext E { E with w := w' } n n where
  le := Nat.le_refl _
  muOut _ _ := rfl
  muNew _ _ _ h1 h2 := absurd h2 (by omega)
  size := by simp [hw.size]
  perm _ h := h
  permNew _ h := .inl h
  frame b' _ hno := hw.other b' fun e => hno id o hn (e ▸ hid)
  shape b' s hs' := by
    by_cases e : b' = b
    · subst e; rw [← hs'] ; exact hs
    · rw [← hs']; exact shape_of_block (hw.other b' e)
  os := hw.os
  tape := hw.tape
  output := hw.output

theorem fresh_refl (E : Env) (n : Nat) : Fresh E n n := fun _ h1 h2 => absurd h2 (by omega)

/-- Writing a part of a row. -/
theorem run_writeRow {E : Env} {b o off : Nat} {bx : Bool} {e : TypeId} {cs : List AV} {c : Array Value} {lo hi : Nat} (h : RowAt E b o bx e cs c lo hi) {id n : Nat} (hid : E.mu id = some (b, o)) (hn : id < n)
    {new : List AV} {vs : List Value} (hvs : VL E new vs) (hcell : ∀ x, x ∈ new → x.isCell = true) (hlen : off + new.length ≤ cs.length) :
    ∃ w', (storeCells ⟨b, o + off, none⟩ vs 0).run P E.w = .ok () w' ∧ Ext E { E with w := w' } n n ∧ Wrote E.w w' b ∧
      ObRel { E with w := w' } b o (.row bx e (cs.take off ++ new ++ cs.drop (off + new.length))) := by
  have hone : ∀ v, v ∈ vs → one v = true := fun v hv => by
    obtain ⟨j, hj⟩ := List.mem_iff_getElem?.1 hv
    have hj' : j < new.length := by rw [hvs.1]; exact (List.getElem?_eq_some_iff.1 hj).1
    exact (hvs.2 j new[j] v (by simp [hj']) hj).one (hcell _ (by simp))
  have hroom := h.room
  obtain ⟨w', c', h1, h2, h3, h4, h5, h6⟩ := run_storeList (P := P) b (o + off) e lo hi vs 0 E.w c h.blk h.free (by rw [← hvs.1]; omega) hone
  have hsh : w'.shape? b = E.w.shape? b := by simp [World.shape?, h2, h.blk, h3]
  have hext := wrote_ext h6 hid hn hsh
  refine ⟨w', h1, hext, h6, c', lo, hi, h2, by rw [h3]; exact h.free, ?_, ?_, ?_⟩
  · simp only [List.length_append, List.length_take, List.length_drop]; rw [h3]; omega
  · intro hb
    have := h.exact hb
    refine ⟨this.1, ?_⟩
    simp only [List.length_append, List.length_take, List.length_drop]; omega
  · intro j x hj
    have hmono : ∀ x v, V E x v → V { E with w := w' } x v := fun x v hv => hv.mono hext (fresh_refl E n)
    rw [show (⟨b, o + j, none⟩ : Addr) = ⟨b, o + j, none⟩ from rfl, cell_of_cells h2]
    rw [List.append_assoc, List.getElem?_append, List.getElem?_append] at hj
    simp only [List.length_take] at hj
    split at hj
    · rw [List.getElem?_take] at hj
      split at hj
      · obtain ⟨hc, v, hv1, hv2⟩ := h.at_ j x hj
        rw [cell_of_cells h.blk] at hv1
        exact ⟨hc, v, by rw [h5 _ (by omega)]; exact hv1, hmono _ _ hv2⟩
      · cases hj
    · split at hj
      · have hj' : j - min off cs.length < vs.length := by rw [← hvs.1]; assumption
        have hx := hvs.2 _ x vs[j - min off cs.length] hj (by simp [hj'])
        refine ⟨hcell x (List.mem_of_getElem? hj), vs[j - min off cs.length], ?_, hmono _ _ hx⟩
        have := h4 (j - min off cs.length) vs[j - min off cs.length] (by simp [hj'])
        rwa [show o + off + 0 + (j - min off cs.length) = o + j from by omega] at this
      · rw [List.getElem?_drop] at hj
        have e : off + new.length + (j - min off cs.length - new.length) = j := by omega
        rw [e] at hj
        obtain ⟨hc, v, hv1, hv2⟩ := h.at_ j x hj
        rw [cell_of_cells h.blk] at hv1
        exact ⟨hc, v, by rw [h5 _ (by rw [← hvs.1]; omega)]; exact hv1, hmono _ _ hv2⟩

/-- What stays of the other blocks. -/
theorem Sat.wrote {E : Env} {g : Nat → Ob} (h : Sat E g) {w' : World} {b id o n : Nat} (hw : Wrote E.w w' b) (hid : E.mu id = some (b, o)) (hlive : (g id).live) (hext : Ext E { E with w := w' } n n)
    {ob : Ob} (hob : ObRel { E with w := w' } b o ob) : Sat { E with w := w' } (fun i => if i = id then ob else g i) where
  base := h.keepBase hext
  muLt i b' o' hi := by rw [hw.size]; exact h.muLt i b' o' hi
  permLt b' hb := by rw [hw.size]; exact h.permLt b' hb
  permOwn b' hb := h.permOwn b' hb
  ob i b' o' hi := by
    by_cases e : i = id
    · subst e
      have : (b', o') = (b, o) := Option.some.inj (hi.symm.trans hid)
      cases this
      simpa using hob
    · simp only [e, if_false]
      by_cases hl : (g i).live
      · refine (h.ob i b' o' hi).mono_of (hw.other b' fun eb => ?_) fun x v hv => hv.mono hext (fresh_refl E n)
        subst eb
        exact e (h.inj i id b' o' o hi hid hl hlive)
      · cases hg : g i with
        | dead => trivial
        | row => rw [hg] at hl; exact absurd trivial hl
        | map => rw [hg] at hl; exact absurd trivial hl
  inj i i' b' o1 o2 h1 h2 l1 l2 := by
    have live_of : ∀ k, ((if k = id then ob else g k)).live → (g k).live := fun k hk => by
      by_cases e : k = id
      · subst e; exact hlive
      · simpa [e] using hk
    exact h.inj i i' b' o1 o2 h1 h2 (live_of i l1) (live_of i' l2)

/-! ### new blocks -/
theorem run_newO (w : World) (o : Obj) : (newObj o).run P w = .ok w.heap.size (w.alloc o) := rfl

def Env.alloc (E : Env) (n : Nat) (o : Obj) : Env := { mu := fun i => if i = n then some (E.w.heap.size, 0) else E.mu i, perm := E.perm, w := E.w.alloc o }

theorem alloc'_old (w : World) (o : Obj) {b : Nat} (h : b < w.heap.size) : (w.alloc o).heap[b]? = w.heap[b]? := by
  show (w.heap.push o)[b]? = _
  rw [Array.getElem?_push, if_neg (by omega)]
theorem alloc'_new (w : World) (o : Obj) : (w.alloc o).heap[w.heap.size]? = some o := by
  show (w.heap.push o)[w.heap.size]? = _
  simp
theorem alloc'_size (w : World) (o : Obj) : (w.alloc o).heap.size = w.heap.size + 1 := by
  show (w.heap.push o).size = _
  simp

theorem shape_lt {w : World} {b : Nat} {s : TypeId × Nat} (h : w.shape? b = some s) : b < w.heap.size := by
  rcases Nat.lt_or_ge b w.heap.size with h' | h'
  · exact h'
  · simp [World.shape?, Array.getElem?_eq_none h'] at h

theorem alloc_ext (E : Env) (n : Nat) (o : Obj) : Ext E (E.alloc n o) n (n + 1) where
  le := by omega
  muOut i hi := by simp only [Env.alloc]; rw [if_neg (by omega)]
  muNew i b o' h1 h2 h := by
    have : i = n := by omega
    subst this
    simp only [Env.alloc, if_true] at h
    cases h
    exact .inl (Nat.le_refl _)
  size := by simp [Env.alloc]
  perm _ h := h
  permNew _ h := .inl h
  frame b hb _ := alloc'_old _ _ hb
  shape b s h := by rw [← h]; exact shape_of_block (alloc'_old _ _ (shape_lt h))
  os := rfl
  tape := rfl
  output := rfl

theorem Sat.alloc {E : Env} {g : Nat → Ob} (h : Sat E g) {n : Nat} {o : Obj} (hf : E.mu n = none) {ob : Ob} (hob : ObRel (E.alloc n o) E.w.heap.size 0 ob) : Sat (E.alloc n o) (fun i => if i = n then ob else g i) where
  base := h.keepBase (alloc_ext E n o)
  muLt i b o' hi := by
    simp only [Env.alloc, alloc'_size] at hi ⊢
    split at hi
    · cases hi; omega
    · have := h.muLt i b o' hi; omega
  permLt b hb := by simp only [Env.alloc, alloc'_size]; have := h.permLt b hb; omega
  permOwn b hb := by
    rintro ⟨i, o', hi⟩
    simp only [Env.alloc] at hi
    split at hi
    · cases hi; exact absurd (h.permLt _ hb) (by omega)
    · exact h.permOwn b hb ⟨i, o', hi⟩
  ob i b o' hi := by
    by_cases e : i = n
    · subst e
      simp only [Env.alloc, if_true] at hi
      cases hi
      simpa using hob
    · have hi' : E.mu i = some (b, o') := by simpa [Env.alloc, e] using hi
      simp only [e, if_false]
      refine (h.ob i b o' hi').mono_of (alloc'_old _ _ (h.muLt i b o' hi')) fun x v hv => hv.mono (alloc_ext E n o) fun id h1 h2 => ?_
      rw [show id = n from by omega]; exact hf
  inj i i' b o1 o2 h1 h2 l1 l2 := by
    by_cases e : i = n <;> by_cases e' : i' = n
    · rw [e, e']
    · subst e
      simp only [Env.alloc, if_true, e', if_false] at h1 h2
      cases h1
      exact absurd (h.muLt _ _ _ h2) (by omega)
    · subst e'
      simp only [Env.alloc, if_true, e, if_false] at h1 h2
      cases h2
      exact absurd (h.muLt _ _ _ h1) (by omega)
    · simp only [Env.alloc, e, e', if_false] at h1 h2 l1 l2
      exact h.inj i i' b o1 o2 h1 h2 l1 l2

/-- A new row. -/
theorem newRow_ok {E : Env} {n : Nat} {bx : Bool} {e : TypeId} {cs : List AV} {vs : List Value} (hf : E.mu n = none) (hvs : VL E cs vs) (hcell : ∀ x, x ∈ cs → x.isCell = true) (rest : List Value) (hbx : bx = true → rest = []) :
    ObRel (E.alloc n (.cells (vs ++ rest).toArray e (0, 0))) E.w.heap.size 0 (.row bx e cs) := by
  refine ⟨(vs ++ rest).toArray, 0, 0, alloc'_new _ _, fun i _ h => by omega, by simp [hvs.1], fun hb => ⟨rfl, by simp [hbx hb, hvs.1]⟩, fun j x hj => ?_⟩
  obtain ⟨v, h1, h2⟩ := hvs.get hj
  have hj' : j < vs.length := (List.getElem?_eq_some_iff.1 h1).1
  refine ⟨hcell x (List.mem_of_getElem? hj), v, ?_, h2.mono (alloc_ext E n _) fun id h3 h4 => ?_⟩
  · show (E.w.alloc _).cell? _ = _
    rw [show (⟨E.w.heap.size, 0 + j, none⟩ : Addr) = ⟨E.w.heap.size, j, none⟩ from by simp, cell_of_cells (alloc'_new _ _)]
    rw [List.getElem?_toArray, List.getElem?_append_left hj']
    exact h1
  · rw [show id = n from by omega]; exact hf

theorem V.newSl {E : Env} {n : Nat} {e : TypeId} {c : Array Value} {fr : Nat × Nat} {len cap esz : Nat} (h1 : len ≤ cap) (h2 : cap * esz ≤ c.size) : V (E.alloc n (.cells c e fr)) (.sl n 0 len esz) (.slice (some ⟨E.w.heap.size, 0, none⟩) len cap) := by
  have := V.sl (E := E.alloc n (.cells c e fr)) n 0 0 len cap esz E.w.heap.size 0 e c.size (by simp [Env.alloc]) h1 (.inr rfl) (by simp only [World.shape?, Env.alloc, alloc'_new]) (by omega)
  simpa using this
theorem V.newPtr {E : Env} {n : Nat} {o : Obj} : V (E.alloc n o) (.ptr n 0) (.pointer (some ⟨E.w.heap.size, 0, none⟩)) := by
  have := V.ptr (E := E.alloc n o) n 0 E.w.heap.size 0 (by simp [Env.alloc])
  simpa using this
theorem V.newMap {E : Env} {n : Nat} {o : Obj} : V (E.alloc n o) (.map n) (.map (some E.w.heap.size)) := V.map n E.w.heap.size 0 (by simp [Env.alloc])
end Go.Ab

/- The abstract machine: operations that neither read nor write memory: what they give. -/
namespace Go.Ab
set_option linter.unusedSectionVars false
variable [HasBase]
set_option linter.unusedVariables false
set_option linter.unusedSimpArgs false

variable {P : Program} {E : Env}

theorem tsz_spec {t n : Nat} (h : tsz P t = some n) : ∃ i, P.info? t = some i ∧ i.size = n := by
  unfold tsz at h
  cases hi : P.info? t with
  | none => simp [hi] at h
  | some i => exact ⟨i, rfl, by simpa [hi] using h⟩
theorem run_tsz {t n : Nat} (h : tsz P t = some n) (w : World) : (sizeOf t).run P w = .ok n w := by
  obtain ⟨i, h1, h2⟩ := tsz_spec h
  simp [sizeOf, typeInfo, h1, h2]
theorem cellsOf_tsz {t n : Nat} (h : tsz P t = some n) : P.cellsOf t = n := by
  obtain ⟨i, h1, h2⟩ := tsz_spec h
  simp [Program.cellsOf, h1, h2]
theorem run_tbytes {t n : Nat} (h : tbytes P t = some n) (w : World) : ∃ i, (typeInfo t).run P w = .ok i w ∧ i.bytes = n := by
  unfold tbytes at h
  cases hi : P.info? t with
  | none => simp [hi] at h
  | some i => exact ⟨i, by simp [typeInfo, hi], by simpa [hi] using h⟩
theorem run_tagg {t : Nat} {b : Bool} (h : tagg P t = some b) (w : World) : (isAgg t).run P w = .ok b w := by
  unfold tagg at h
  cases hu : P.underlying t with
  | none => simp [hu] at h
  | some d =>
    simp only [hu, Option.map_some, Option.some.injEq] at h
    unfold isAgg
    simp only [Sem.run_bind, run_underlying hu, Result.andThen_ok]
    subst h
    cases d <;> simp

theorem mapO_spec {α β : Type} {f : α → Option β} : ∀ {xs : List α} {ys : List β}, mapO f xs = some ys → xs.length = ys.length ∧ ∀ (j : Nat) x y, xs[j]? = some x → ys[j]? = some y → f x = some y
  | [], ys, h => by
    simp [mapO] at h; subst h
    exact ⟨rfl, fun j x y h => by simp at h⟩
  | x :: xs, ys, h => by
    unfold mapO at h
    split at h
    · rename_i y hy
      split at h
      · rename_i ys' hys
        simp only [Option.some.injEq] at h
        subst h
        obtain ⟨h1, h2⟩ := mapO_spec hys
        refine ⟨by simp [h1], fun j a b ha hb => ?_⟩
        cases j with
        | zero => simp at ha hb; subst ha; subst hb; exact hy
        | succ j => exact h2 j a b (by simpa using ha) (by simpa using hb)
      · cases h
    · cases h

theorem ofVal1_spec {v : Value} {x : AV} (h : ofVal1 v = some x) : V E x v := by
  unfold ofVal1 at h
  split at h <;> first
    | (simp only [Option.some.injEq] at h; subst h; constructor; done)
    | (simp only [Option.some.injEq] at h; subst h; exact .str _ _ rfl)
    | (cases h)

theorem ofVal_spec {v : Value} {x : AV} (h : ofVal v = some x) : V E x v := by
  unfold ofVal at h
  split at h
  · rename_i cs
    cases hm : mapO ofVal1 cs.toList with
    | none => simp [hm] at h
    | some ys =>
      simp only [hm, Option.map_some, Option.some.injEq] at h
      subst h
      obtain ⟨h1, h2⟩ := mapO_spec hm
      refine .agg _ _ (by simpa using h1.symm) fun j x v hx hv => ofVal1_spec (h2 j v x (by simpa using hv) hx)
  · rename_i vs
    split at h
    · simp only [Option.some.injEq] at h; subst h
      rename_i hz
      have : vs = #[] := by simpa using hz
      subst this
      exact .undef
    · cases h
  · exact ofVal1_spec h

theorem tzero_spec {t : Nat} {z : AV} (h : tzero P t = some z) : ∃ zv, (∀ w : World, (zeroValue t).run P w = .ok zv w) ∧ ∀ E : Env, V E z zv := by
  unfold tzero at h
  cases hi : P.info? t with
  | none => simp [hi] at h
  | some i =>
    cases hz : i.zero with
    | none => simp [hi, hz] at h
    | some zv => exact ⟨zv, fun w => by simp [zeroValue, typeInfo, hi, hz], fun E => ofVal_spec (by simpa [hi, hz] using h)⟩

abbrev TM (E : Env) (tm : List AV) (tmps : Array Value) : Prop := VL E tm tmps.toList

theorem TM.len {tm : List AV} {tmps : Array Value} (h : TM E tm tmps) : tm.length = tmps.size := by
  have h1 : tm.length = tmps.toList.length := h.1
  rw [h1, Array.length_toList]

theorem ev_spec {tm : List AV} {a : Act} (ht : TM E tm a.tmps) {x : Operand} {v : AV} (h : ev tm x = some v) : V E v (a.eval x) := by
  cases x with
  | tmp t =>
    simp only [ev, Option.some.injEq] at h
    subst h
    simp only [Act.eval]
    by_cases hl : t < tm.length
    · have hv : t < a.tmps.size := by rw [← TM.len ht]; exact hl
      have := ht.2 t tm[t] a.tmps[t] (by simp [hl]) (by simp [hv])
      simpa [List.getD_eq_getElem?_getD, hl, Array.getD_eq_getD_getElem?, hv] using this
    · have hv : ¬ t < a.tmps.size := by rw [← TM.len ht]; exact hl
      simpa [List.getD_eq_getElem?_getD, hl, Array.getD_eq_getD_getElem?, hv] using V.undef
  | const v => exact ofVal_spec h
  | global g => cases h
  | func f =>
    simp only [ev, Option.some.injEq] at h
    subst h
    exact .fn f [] #[] rfl fun j x v h => by simp at h

theorem evs_spec {tm : List AV} {a : Act} (ht : TM E tm a.tmps) {xs : List Operand} {vs : List AV} (h : evs tm xs = some vs) : VL E vs (xs.map a.eval) := by
  obtain ⟨h1, h2⟩ := mapO_spec h
  refine ⟨by simp [h1], fun j x v hx hv => ?_⟩
  rw [List.getElem?_map] at hv
  cases ho : xs[j]? with
  | none => simp [ho] at hv
  | some o => simp [ho] at hv; subst hv; exact ev_spec ht (h2 j o x ho hx)

/-! ### the shapes of values -/
theorem V.int_inv {k : IntKind} {n : Int} {v : Value} (h : V E (.int k n) v) : v = .int k n := by cases h; rfl
theorem V.bool_inv {b : Bool} {v : Value} (h : V E (.bool b) v) : v = .bool b := by cases h; rfl
theorem V.str_inv {l : List UInt8} {v : Value} (h : V E (.str l) v) : ∃ s, v = .string s ∧ s.data.toList = l := by cases h; exact ⟨_, rfl, ‹_›⟩
theorem V.agg_inv {cs : List AV} {v : Value} (h : V E (.agg cs) v) : ∃ vs, v = .agg vs ∧ VL E cs vs.toList := by
  cases h
  exact ⟨_, rfl, by simpa using ‹_›, fun j x v h1 h2 => by rename_i h; exact h j x v h1 (by simpa using h2)⟩
theorem V.tup_inv {cs : List AV} {v : Value} (h : V E (.tup cs) v) : ∃ vs, v = .tuple vs ∧ VL E cs vs.toList := by
  cases h
  exact ⟨_, rfl, by simpa using ‹_›, fun j x v h1 h2 => by rename_i h; exact h j x v h1 (by simpa using h2)⟩
theorem V.fn_inv {f : FuncId} {cap : List AV} {v : Value} (h : V E (.fn f cap) v) : ∃ vs, v = .func (.func f) #[] vs ∧ VL E cap vs.toList := by
  cases h
  exact ⟨_, rfl, by simpa using ‹_›, fun j x v h1 h2 => by rename_i h; exact h j x v h1 (by simpa using h2)⟩
theorem V.mkAgg {cs : List AV} {vs : List Value} (h : VL E cs vs) : V E (.agg cs) (.agg vs.toArray) := .agg _ _ (by simpa using h.1) fun j x v h1 h2 => h.2 j x v h1 (by simpa using h2)
theorem V.mkTup {cs : List AV} {vs : List Value} (h : VL E cs vs) : V E (.tup cs) (.tuple vs.toArray) := .tup _ _ (by simpa using h.1) fun j x v h1 h2 => h.2 j x v h1 (by simpa using h2)
theorem V.mkFn {f : FuncId} {cs : List AV} {vs : List Value} (h : VL E cs vs) : V E (.fn f cs) (.func (.func f) #[] vs.toArray) := .fn _ _ _ (by simpa using h.1) fun j x v h1 h2 => h.2 j x v h1 (by simpa using h2)
theorem V.notAgg {x : AV} {v : Value} (h : V E x v) (hx : ∀ cs, x ≠ .agg cs) : ∀ vs, v ≠ .agg vs := by
  rintro vs rfl
  cases h
  exact hx _ rfl
/-- A value's cells. -/
theorem V.cells {x : AV} {v : Value} (h : V E x v) : VL E x.cells v.cells.toList := by
  cases h with
  | agg cs vs hl hv => exact ⟨by simpa [AV.cells, Value.cells] using hl, fun j x v h1 h2 => hv j x v h1 (by simpa [Value.cells] using h2)⟩
  | _ => refine VL.cons ?_ (VL.nil E); constructor <;> assumption

/-! ### values alone -/
/-- An operation on values: it gives v, and leaves the world alone. -/
def Gives (P : Program) (E : Env) (s : Sem Value) (x : AV) : Prop := ∃ v, s.run P E.w = .ok v E.w ∧ V E x v

theorem fieldAddr_ok {s f : Nat} {x y : AV} {v : Value} (h : fieldAddrA P s x f = some y) (hx : V E x v) : Gives P E (Instr.fieldAt s v f) y := by
  unfold fieldAddrA at h
  split at h <;> try (cases h; done)
  rename_i fields hu
  split at h <;> try (cases h; done)
  rename_i fd hf
  split at h <;> try (cases h; done)
  rename_i n hn
  split at h <;> try (cases h; done)
  rename_i hn0
  have hplace : ∀ (b o : Nat), (fieldPlace ⟨b, o, none⟩ fd).run P E.w = .ok ⟨b, o + fd.offset, none⟩ E.w := fun b o => by
    unfold fieldPlace
    simp only [Sem.run_bind, run_tsz hn, Result.andThen_ok]
    rw [if_neg hn0]
    simp
  split at h <;> try (cases h; done)
  · rename_i id off
    simp only [Option.some.injEq] at h; subst h
    cases hx with
    | ptr _ _ b o hm =>
      refine ⟨.pointer (some ⟨b, o + off + fd.offset, none⟩), ?_, ?_⟩
      · simp [Instr.fieldAt, Sem.run_bind, run_underlying hu, hf, Instr.sureAddr, hplace]
      · have := V.ptr (E := E) id (off + fd.offset) b o hm
        rwa [show o + (off + fd.offset) = o + off + fd.offset from by omega] at this
  · rename_i tmp cs off
    simp only [Option.some.injEq] at h; subst h
    cases hx with
    | eptr _ _ _ b o vs h1 h2 h3 h4 h5 =>
      refine ⟨.pointer (some ⟨b, o + off + fd.offset, none⟩), ?_, ?_⟩
      · simp [Instr.fieldAt, Sem.run_bind, run_underlying hu, hf, Instr.sureAddr, hplace]
      · have := V.eptr (E := E) tmp cs (off + fd.offset) b o vs h1 h2 h3 h4 h5
        rwa [show o + (off + fd.offset) = o + off + fd.offset from by omega] at this

theorem part_ok {t off : Nat} {cs : List AV} {vs : Array Value} {y : AV} (h : partA P t cs off = some y) (hx : VL E cs vs.toList) : Gives P E (part t vs off) y := by
  unfold partA at h
  unfold part
  split at h
  · rename_i ha
    split at h <;> try (cases h; done)
    rename_i n hn
    simp only [Option.some.injEq] at h
    subst h
    refine ⟨.agg (vs.extract off (off + n)), ?_, ?_⟩
    · simp [Sem.run_bind, run_tagg ha, run_tsz hn]
    · have := V.mkAgg ((hx.drop off).take n)
      rwa [show ((vs.toList.drop off).take n).toArray = vs.extract off (off + n) from by
        apply Array.ext'
        simp [Array.toList_extract, List.extract_eq_take_drop]] at this
  · rename_i ha
    obtain ⟨v, h1, h2⟩ := hx.get h
    refine ⟨v, ?_, h2⟩
    have h1' : vs[off]? = some v := by simpa using h1
    simp [Sem.run_bind, run_tagg ha, h1']
  · cases h

theorem field_ok {t f : Nat} {x y : AV} {v : Value} (h : fieldA P t x f = some y) (hx : V E x v) : Gives P E (Instr.field t v f) y := by
  unfold fieldA at h
  split at h <;> try (cases h; done)
  rename_i fields cs hu
  split at h <;> try (cases h; done)
  rename_i fd hf
  obtain ⟨vs, rfl, hvs⟩ := hx.agg_inv
  obtain ⟨r, h1, h2⟩ := part_ok h hvs
  exact ⟨r, by simp [Instr.field, Sem.run_bind, run_underlying hu, hf, asAgg, h1], h2⟩

theorem VL.of_flat {rows : List (List AV)} {esz : Nat} (hr : ∀ r, r ∈ rows → r.length = esz) {i : Nat} {r : List AV} (h : rows[i]? = some r) : ∀ (j : Nat) x, r[j]? = some x → rows.flatten[i * esz + j]? = some x := by
  induction rows generalizing i with
  | nil => simp at h
  | cons r0 rows ih =>
    intro j x hx
    have h0 := hr r0 (by simp)
    cases i with
    | zero =>
      simp at h; subst h
      have hj := (List.getElem?_eq_some_iff.1 hx).1
      rw [List.flatten_cons, Nat.zero_mul, Nat.zero_add, List.getElem?_append_left hj]
      exact hx
    | succ i =>
      have := ih (fun r hr' => hr r (by simp [hr'])) (by simpa using h) j x hx
      rw [List.flatten_cons, List.getElem?_append_right (by rw [h0, Nat.succ_mul]; omega), h0, Nat.succ_mul]
      rwa [show i * esz + esz + j - esz = i * esz + j from by omega]

theorem indexAddr_ok {t : Nat} {x i y : AV} {v vi : Value} (h : indexAddrA P t x i = some y) (hx : V E x v) (hi : V E i vi) : Gives P E (Instr.indexAt t v vi) y := by
  unfold indexAddrA at h
  split at h <;> try (cases h; done)
  rename_i k n
  obtain rfl := hi.int_inv
  split at h <;> try (cases h; done)
  rename_i h0
  split at h
  · rename_i elem id off len e hu
    split at h <;> try (cases h; done)
    rename_i esz hsz
    split at h <;> try (cases h; done)
    rename_i hc
    obtain ⟨rfl, hlt⟩ := hc
    simp only [Option.some.injEq] at h; subst h
    cases hx with
    | sl _ _ off' _ cap _ b o e' n' hm hl ho hs hroom =>
      have hoff : off' = off := by
        rcases ho with h | h
        · omega
        · exact h
      subst hoff
      refine ⟨.pointer (some ⟨b, o + off' + n.toNat * e, none⟩), ?_, ?_⟩
      · simp [Instr.indexAt, asIntOf, Sem.run_bind, run_underlying hu, h0, hlt, run_tsz hsz]
      · have := V.ptr (E := E) id (off' + n.toNat * e) b o hm
        rwa [show o + (off' + n.toNat * e) = o + off' + n.toNat * e from by omega] at this
  · rename_i elem tmp rows hu
    split at h <;> try (cases h; done)
    rename_i esz r hsz hr
    split at h <;> try (cases h; done)
    rename_i hrl
    simp only [Option.some.injEq] at h; subst h
    have hlt : n.toNat < rows.length := (List.getElem?_eq_some_iff.1 hr).1
    cases hx with
    | islE => simp at hr
    | isl _ _ esz' b o cap vs hi' hrows hcell hcl hcap hcells hv =>
      have hmem : r ∈ rows := List.mem_of_getElem? hr
      have he : esz' = esz := (hrows r hmem).symm.trans hrl
      subst he
      refine ⟨.pointer (some ⟨b, o + n.toNat * esz', none⟩), ?_, ?_⟩
      · have : n < (rows.length : Int) := by omega
        simp [Instr.indexAt, asIntOf, Sem.run_bind, run_underlying hu, h0, this, run_tsz hsz]
      · have := V.eptr (E := E) tmp r 0 b (o + n.toNat * esz') (fun j => vs (n.toNat * esz' + j)) hi' (fun x hx => hcell r x hmem hx) (fun x hx => hcl r x hmem hx)
          (fun j x hj => by rw [← hcells _ x (VL.of_flat hrows hr j x hj)]; congr 2; omega) (fun j x hj => hv _ x (VL.of_flat hrows hr j x hj))
        simpa using this
  · rename_i len elem id off hu
    split at h <;> try (cases h; done)
    rename_i esz hsz
    split at h <;> try (cases h; done)
    rename_i hlt
    simp only [Option.some.injEq] at h; subst h
    cases hx with
    | ptr _ _ b o hm =>
      refine ⟨.pointer (some ⟨b, o + off + n.toNat * esz, none⟩), ?_, ?_⟩
      · simp [Instr.indexAt, asIntOf, Sem.run_bind, run_underlying hu, h0, hlt, run_tsz hsz, Instr.sureAddr]
      · have := V.ptr (E := E) id (off + n.toNat * esz) b o hm
        rwa [show o + (off + n.toNat * esz) = o + off + n.toNat * esz from by omega] at this
  · rename_i len elem tmp cs off hu
    split at h <;> try (cases h; done)
    rename_i esz hsz
    split at h <;> try (cases h; done)
    rename_i hlt
    simp only [Option.some.injEq] at h; subst h
    cases hx with
    | eptr _ _ _ b o vs h1 h2 h3 h4 h5 =>
      refine ⟨.pointer (some ⟨b, o + off + n.toNat * esz, none⟩), ?_, ?_⟩
      · simp [Instr.indexAt, asIntOf, Sem.run_bind, run_underlying hu, h0, hlt, run_tsz hsz, Instr.sureAddr]
      · have := V.eptr (E := E) tmp cs (off + n.toNat * esz) b o vs h1 h2 h3 h4 h5
        rwa [show o + (off + n.toNat * esz) = o + off + n.toNat * esz from by omega] at this
  · cases h

theorem bytes_get {s : ByteArray} {l : List UInt8} (h : s.data.toList = l) (i : Nat) : s[i]? = l[i]? := by
  subst h
  show (if h : i < s.size then some s[i] else none) = _
  rw [Array.getElem?_toList]
  by_cases hi : i < s.size
  · have h2 : i < s.data.size := hi
    rw [dif_pos hi, Array.getElem?_eq_getElem h2]
    rfl
  · have h2 : ¬ i < s.data.size := hi
    rw [dif_neg hi, Array.getElem?_eq_none (by omega)]

theorem index_ok {t : Nat} {x i y : AV} {v vi : Value} (h : indexA P t x i = some y) (hx : V E x v) (hi : V E i vi) : Gives P E (Instr.index t v vi) y := by
  unfold indexA at h
  split at h <;> try (cases h; done)
  rename_i k n
  obtain rfl := hi.int_inv
  split at h <;> try (cases h; done)
  rename_i h0
  split at h
  · rename_i len elem cs hu
    split at h <;> try (cases h; done)
    rename_i esz hsz
    split at h <;> try (cases h; done)
    rename_i hlt
    obtain ⟨vs, rfl, hvs⟩ := hx.agg_inv
    obtain ⟨r, h1, h2⟩ := part_ok h hvs
    refine ⟨r, ?_, h2⟩
    simp [Instr.index, asIntOf, Sem.run_bind, run_underlying hu, h0, hlt, run_tsz hsz, h1]
  · rename_i s hu
    split at h <;> try (cases h; done)
    rename_i b hb
    simp only [Option.some.injEq] at h; subst h
    obtain ⟨s', rfl, hs⟩ := hx.str_inv
    refine ⟨.int .u8 b.toNat, ?_, .int _ _⟩
    have : s'[n.toNat]? = some b := by rw [bytes_get hs]; exact hb
    simp [Instr.index, asIntOf, Sem.run_bind, run_underlying hu, h0, this]
  · cases h
end Go.Ab

/- The abstract machine: more operations on values: slices of slices, aggregates, numbers, strings, comparisons. -/
namespace Go.Ab
set_option linter.unusedSectionVars false
variable [HasBase]
set_option linter.unusedVariables false
set_option linter.unusedSimpArgs false

variable {P : Program} {E : Env}

/-- An operand that may lack. -/
def OptV (E : Env) : Option AV → Option Value → Prop
  | none, none => True
  | some x, some v => V E x v
  | _, _ => False

theorem lo_ok {lo : Option AV} {vlo : Option Value} {l y : Nat} (h : loA lo = some l) (hv : OptV E lo vlo) (hy : l ≤ y) (code : BoundsCode) (w : World) :
    (match vlo with | some v => Instr.sliceBound v y code | none => (pure 0 : Sem Nat)).run P w = .ok l w := by
  unfold loA at h
  split at h
  · cases vlo with
    | none => simp only [Option.some.injEq] at h; subst h; rfl
    | some v => exact hv.elim
  · rename_i k n
    cases vlo with
    | none => exact hv.elim
    | some v =>
      obtain rfl := V.int_inv (E := E) (h := hv)
      split at h <;> try (cases h; done)
      rename_i h0
      simp only [Option.some.injEq] at h; subst h
      have : 0 ≤ n ∧ n ≤ (y : Int) := by omega
      simp [Instr.sliceBound, asIntOf, this]
  · cases h

theorem hi_ok {hi : Option AV} {vhi : Option Value} {len h y : Nat} (hh : hiA len hi = some h) (hv : OptV E hi vhi) (hy : len ≤ y) (code : BoundsCode) (w : World) :
    (match vhi with | some v => Instr.sliceBound v y code | none => (pure len : Sem Nat)).run P w = .ok h w := by
  unfold hiA at hh
  split at hh
  · cases vhi with
    | none => simp only [Option.some.injEq] at hh; subst hh; rfl
    | some v => exact hv.elim
  · rename_i k n
    cases vhi with
    | none => exact hv.elim
    | some v =>
      obtain rfl := V.int_inv (E := E) (h := hv)
      split at hh <;> try (cases hh; done)
      rename_i h0
      simp only [Option.some.injEq] at hh; subst hh
      have : 0 ≤ n ∧ n ≤ (y : Int) := by omega
      simp [Instr.sliceBound, asIntOf, this]
  · cases hh

theorem bounds_ok {lo hi : Option AV} {vlo vhi : Option Value} {l h len cap : Nat} (hl : loA lo = some l) (hh : hiA len hi = some h) (vl : OptV E lo vlo) (vh : OptV E hi vhi) (hc : len ≤ cap) (hlh : l ≤ h) (isSlice : Bool) (w : World) :
    (Instr.sliceBounds isSlice len cap vlo vhi none).run P w = .ok (l, h, cap) w := by
  have h1 := fun code => hi_ok (P := P) hh vh hc code w
  have h2 := fun code => lo_ok (P := P) hl vl hlh code w
  unfold Instr.sliceBounds
  cases vhi with
  | none =>
    have e := h1 .index
    simp only [Sem.run_pure, Result.ok.injEq, and_true] at e
    subst e
    cases vlo with
    | none =>
      have e := h2 .index
      simp only [Sem.run_pure, Result.ok.injEq, and_true] at e
      subst e
      simp [Sem.run_bind]
    | some v => simp only [Sem.run_bind, Sem.run_pure, Result.andThen_ok, h2 _, Option.isSome_none, Bool.false_eq_true, if_false]
  | some u =>
    cases vlo with
    | none =>
      have e := h2 .index
      simp only [Sem.run_pure, Result.ok.injEq, and_true] at e
      subst e
      simp only [Sem.run_bind, Sem.run_pure, Result.andThen_ok, h1 _]
    | some v => simp only [Sem.run_bind, Sem.run_pure, Result.andThen_ok, h1 _, h2 _, Option.isSome_none, Bool.false_eq_true, if_false]

theorem hiA_le {len h : Nat} {hi : Option AV} (hh : hiA len hi = some h) : h ≤ len := by
  unfold hiA at hh
  split at hh
  · simp only [Option.some.injEq] at hh; omega
  · split at hh <;> try (cases hh; done)
    simp only [Option.some.injEq] at hh; omega
  · cases hh

theorem extract_list (s : ByteArray) (l h : Nat) : (s.extract l h).data.toList = (s.data.toList.drop l).take (h - l) := by
  rw [ByteArray.data_extract, Array.toList_extract, List.extract_eq_take_drop]

theorem sliceStr_ok {t : Nat} {s : List UInt8} {lo hi : Option AV} {vlo vhi : Option Value} {y : AV} {v : Value} (hu : P.underlying t = some .string) (h : sliceStrA s lo hi = some y) (hx : V E (.str s) v) (vl : OptV E lo vlo) (vh : OptV E hi vhi) :
    Gives P E (Instr.slice t v vlo vhi none) y := by
  unfold sliceStrA at h
  split at h <;> try (cases h; done)
  rename_i l h' hl hh
  split at h <;> try (cases h; done)
  rename_i hle
  simp only [Option.some.injEq] at h; subst h
  obtain ⟨b, rfl, hb⟩ := hx.str_inv
  have hsz : b.size = s.length := by rw [← hb, Array.length_toList]; rfl
  refine ⟨.string (b.extract l h'), ?_, .str _ _ (by rw [extract_list, hb])⟩
  simp only [Instr.slice, Sem.run_bind, run_underlying hu, Result.andThen_ok, Option.isSome_none, Bool.false_eq_true, if_false, Sem.run_pure, hsz, bounds_ok hl hh vl vh (Nat.le_refl _) hle]

theorem slice_ok {t elem e : Nat} {x : AV} {lo hi : Option AV} {vlo vhi : Option Value} {y : AV} {v : Value} (hu : P.underlying t = some (.slice elem)) (he : tsz P elem = some e) (h : sliceA e x lo hi = some y) (hx : V E x v) (vl : OptV E lo vlo) (vh : OptV E hi vhi) :
    Gives P E (Instr.slice t v vlo vhi none) y := by
  unfold sliceA at h
  split at h
  · rename_i id off len e'
    split at h <;> try (cases h; done)
    rename_i l h' hl hh
    split at h <;> try (cases h; done)
    rename_i hc
    obtain ⟨rfl, hle⟩ := hc
    simp only [Option.some.injEq] at h; subst h
    have hhl := hiA_le hh
    cases hx with
    | sl _ _ off' _ cap _ b o e2 n hm hlc ho hs hroom =>
      refine ⟨.slice (if cap = l then some ⟨b, o + off', none⟩ else some ⟨b, o + off' + l * e', none⟩) (h' - l) (cap - l), ?_, ?_⟩
      · simp only [Instr.slice, Sem.run_bind, run_underlying hu, Result.andThen_ok, bounds_ok hl hh vl vh hlc hle, run_tsz he, Sem.run_pure]
        simp
      · by_cases hcl : cap = l
        · rw [if_pos hcl]
          refine .sl id (off + l * e') off' (h' - l) (cap - l) e' b o e2 n hm (by omega) (.inl (by omega)) hs ?_
          have : (cap - l) * e' ≤ cap * e' := Nat.mul_le_mul_right _ (by omega)
          omega
        · rw [if_neg hcl]
          have hoff : off' = off := by
            rcases ho with h | h
            · omega
            · exact h
          subst hoff
          have := V.sl (E := E) id (off' + l * e') (off' + l * e') (h' - l) (cap - l) e' b o e2 n hm (by omega) (.inr rfl) hs (by
            have : l * e' + (cap - l) * e' = cap * e' := by rw [← Nat.add_mul]; congr 1; omega
            omega)
          rwa [show o + (off' + l * e') = o + off' + l * e' from by omega] at this
  · rename_i tmp rows
    split at h <;> try (cases h; done)
    rename_i l h' hl hh
    split at h <;> try (cases h; done)
    rename_i hc
    obtain ⟨hrl, hle⟩ := hc
    simp only [Option.some.injEq] at h; subst h
    have hhl := hiA_le hh
    cases hx with
    | islE _ a cap =>
      have h0 : h' = 0 := by simpa using hhl
      subst h0
      have hl0 : l = 0 := by omega
      subst hl0
      refine ⟨.slice (if cap = 0 then some a else some (a.add (0 * e))) 0 cap, ?_, ?_⟩
      · simp only [Instr.slice, Sem.run_bind, run_underlying hu, Result.andThen_ok]
        rw [show (0 : Nat) = ([] : List (List AV)).length from rfl] at hh ⊢
        rw [bounds_ok hl hh vl vh (Nat.zero_le _) hle]
        simp [run_tsz he]
      · simp only [List.drop_nil, List.take_nil]
        split
        · exact V.islE tmp _ cap
        · exact V.islE tmp _ cap
    | isl _ _ esz b o cap vs hi' hrows hcell hcl hcap hcells hv =>
      refine ⟨.slice (if cap = l then some ⟨b, o, none⟩ else some ⟨b, o + l * e, none⟩) (h' - l) (cap - l), ?_, ?_⟩
      · simp only [Instr.slice, Sem.run_bind, run_underlying hu, Result.andThen_ok, bounds_ok hl hh vl vh hcap hle, run_tsz he, Sem.run_pure]
        simp
      · by_cases hz : h' - l = 0
        · rw [hz, List.take_zero]
          split
          · exact V.islE tmp _ (cap - l)
          · exact V.islE tmp _ (cap - l)
        · rw [if_neg (by omega)]
          have hlen : ((rows.drop l).take (h' - l)).length = h' - l := by simp; omega
          have hesz : esz = e := by
            cases rows with
            | nil => simp at hhl; omega
            | cons r rs =>
              simp only [rowLen, beq_iff_eq] at hrl
              rw [← hrows r (by simp)]; exact hrl
          subst hesz
          have hsub : ∀ r, r ∈ (rows.drop l).take (h' - l) → r ∈ rows := fun r hr => List.mem_of_mem_drop (List.mem_of_mem_take hr)
          have hflat : ∀ (j : Nat) x, ((rows.drop l).take (h' - l)).flatten[j]? = some x → rows.flatten[l * esz + j]? = some x := by
            intro j x hj
            have hd : (rows.drop l).flatten[j]? = some x := by
              rw [← List.take_append_drop (h' - l) (rows.drop l), List.flatten_append, List.getElem?_append_left ((List.getElem?_eq_some_iff.1 hj).1)]
              exact hj
            have ht : (rows.take l).flatten.length = l * esz := by
              have : ∀ (rs : List (List AV)), (∀ r, r ∈ rs → r.length = esz) → rs.flatten.length = rs.length * esz := by
                intro rs
                induction rs with
                | nil => simp
                | cons r rs ih =>
                  intro hr
                  rw [List.flatten_cons, List.length_append, ih (fun r' h' => hr r' (by simp [h'])), hr r (by simp), List.length_cons, Nat.succ_mul]
                  omega
              rw [this _ fun r hr => hrows r (List.mem_of_mem_take hr)]
              simp; rw [Nat.min_eq_left (by omega)]
            rw [← List.take_append_drop l rows, List.flatten_append, List.getElem?_append_right (by omega), ht]
            rwa [show l * esz + j - l * esz = j from by omega]
          have := V.isl (E := E) tmp ((rows.drop l).take (h' - l)) esz b (o + l * esz) (cap - l) (fun j => vs (l * esz + j)) hi' (fun r hr => hrows r (hsub r hr)) (fun r x hr hx => hcell r x (hsub r hr) hx)
            (fun r x hr hx => hcl r x (hsub r hr) hx) (by rw [hlen]; omega) (fun j x hj => by rw [← hcells _ x (hflat j x hj)]; congr 2; omega) (fun j x hj => hv _ x (hflat j x hj))
          rwa [hlen] at this
  · split at h <;> try (cases h; done)
    rename_i l h' hl hh
    split at h <;> try (cases h; done)
    rename_i hle
    simp only [Option.some.injEq] at h; subst h
    have hhl := hiA_le hh
    cases hx
    have h0 : h' = 0 := by omega
    subst h0
    have hl0 : l = 0 := by omega
    subst hl0
    refine ⟨.slice none 0 0, ?_, .nils⟩
    simp [Instr.slice, Sem.run_bind, run_underlying hu, bounds_ok hl hh vl vh (Nat.le_refl _) hle, run_tsz he]
  · cases h

/-! ### aggregates -/
theorem foldl_set (vs : List Value) : ∀ (k : Nat) (c : Array Value) (off : Nat), off + k + vs.length ≤ c.size →
    ((vs.zipIdx k).foldl (fun (cs : Array Value) (p : Value × Nat) => cs.setIfInBounds (off + p.2) p.1) c).toList = c.toList.take (off + k) ++ vs ++ c.toList.drop (off + k + vs.length) := by
  induction vs with
  | nil => intro k c off h; simp
  | cons v vs ih =>
    intro k c off h
    simp only [List.length_cons] at h
    simp only [List.zipIdx_cons, List.foldl_cons]
    rw [ih (k + 1) _ off (by simp; omega)]
    simp only [Array.toList_setIfInBounds, List.length_cons]
    have hlen : off + k < c.toList.length := by simp; omega
    rw [show off + (k + 1) = off + k + 1 from by omega, List.take_succ_eq_append_getElem (by simpa using hlen), List.take_set_of_le (by omega)]
    rw [List.getElem_set_self, List.drop_set_of_lt (by omega)]
    simp only [List.append_assoc, List.singleton_append]
    rw [show off + k + (vs.length + 1) = off + k + 1 + vs.length from by omega]

theorem fill_ok {place placeV : Nat → Option (Nat × Nat)} (hp : ∀ i p, place i = some p → placeV i = some p) : ∀ (parts : List (Nat × AV)) (partsV : List (Nat × Value)) (cells : List AV) (c : Array Value) (r : List AV),
    fillA place cells parts = some r → VL E cells c.toList → parts.length = partsV.length → (∀ (j : Nat) p q, parts[j]? = some p → partsV[j]? = some q → p.1 = q.1 ∧ V E p.2 q.2) →
    ∃ rv, Instr.fill placeV c partsV = some rv ∧ VL E r rv.toList
  | [], partsV, cells, c, r, h, hc, hl, hps => by
    simp only [fillA, Option.some.injEq] at h; subst h
    cases partsV with
    | nil => exact ⟨c, rfl, hc⟩
    | cons => simp at hl
  | (i, x) :: parts, partsV, cells, c, r, h, hc, hl, hps => by
    cases partsV with
    | nil => simp at hl
    | cons q partsV =>
      obtain ⟨i', v⟩ := q
      obtain ⟨e, hv⟩ := hps 0 (i, x) (i', v) rfl rfl
      simp only at e hv; subst e
      unfold fillA at h
      split at h <;> try (cases h; done)
      rename_i off size hpl
      dsimp only at h
      split at h <;> try (cases h; done)
      rename_i hcond
      obtain ⟨hsz, hle⟩ := hcond
      have hcv := hv.cells
      have hsz' : v.cells.size = size := by have := hcv.1; simp at this; omega
      have hcl : c.size = cells.length := by have := hc.1; simp at this; omega
      have hvl : VL E (cells.take off ++ x.cells ++ cells.drop (off + size)) ((v.cells.zipIdx.foldl (fun cs (c, j) => cs.setIfInBounds (off + j) c) c) : Array Value).toList := by
        have := foldl_set v.cells.toList 0 c off (by simp; omega)
        have e2 : (v.cells.zipIdx.foldl (fun cs (c, j) => cs.setIfInBounds (off + j) c) c : Array Value) = ((v.cells.toList.zipIdx 0).foldl (fun (cs : Array Value) (p : Value × Nat) => cs.setIfInBounds (off + p.2) p.1) c) := by
          rw [← Array.foldl_toList, Array.toList_zipIdx]
        rw [e2, this]
        simp only [Nat.add_zero, Array.length_toList, hsz']
        exact ((hc.take off).append hcv).append (hc.drop (off + size))
      obtain ⟨rv, h1, h2⟩ := fill_ok hp parts partsV _ _ r h hvl (by simpa using hl) fun j p q h1 h2 => hps (j + 1) p q (by simpa using h1) (by simpa using h2)
      refine ⟨rv, ?_, h2⟩
      unfold Instr.fill
      rw [hp i _ hpl]
      simp only
      rw [if_neg (by simp; omega)]
      exact h1

theorem mapM_places {fields : Array Field} (h : fields.toList.all (fun f => (tsz P f.type).isSome) = true) (w : World) :
    ∃ ps : Array (Nat × Nat), (fields.mapM fun f => do pure (f.offset, ← sizeOf f.type) : Sem (Array (Nat × Nat))).run P w = .ok ps w ∧ ∀ (i : Nat) (f : Field) (n : Nat), fields[i]? = some f → tsz P f.type = some n → ps[i]? = some (f.offset, n) := by
  have key : ∀ (l : List Field), l.all (fun f => (tsz P f.type).isSome) = true → ∃ ps : List (Nat × Nat), (l.mapM fun f => do pure (f.offset, ← sizeOf f.type) : Sem (List (Nat × Nat))).run P w = .ok ps w ∧
      ∀ (i : Nat) (f : Field) (n : Nat), l[i]? = some f → tsz P f.type = some n → ps[i]? = some (f.offset, n) := by
    intro l
    induction l with
    | nil => intro _; exact ⟨[], by simp, fun i f n h => by simp at h⟩
    | cons f l ih =>
      intro hall
      simp only [List.all_cons, Bool.and_eq_true] at hall
      obtain ⟨ps, h1, h2⟩ := ih hall.2
      obtain ⟨n, hn⟩ := Option.isSome_iff_exists.1 hall.1
      refine ⟨(f.offset, n) :: ps, ?_, fun i f' n' hf hn' => ?_⟩
      · rw [List.mapM_cons]
        simp only [Sem.run_bind, run_tsz hn, Result.andThen_ok, Sem.run_pure, h1]
      · cases i with
        | zero => simp at hf; subst hf; rw [hn] at hn'; cases hn'; rfl
        | succ i => exact h2 i f' n' (by simpa using hf) hn'
  obtain ⟨ps, h1, h2⟩ := key fields.toList h
  refine ⟨ps.toArray, ?_, fun i f n hf hn => by simpa using h2 i f n (by simpa using hf) hn⟩
  rw [Array.mapM_eq_mapM_toList, map_eq_pure_bind, Sem.run_bind, h1]
  rfl

theorem evParts_spec {tm : List AV} {a : Act} (ht : TM E tm a.tmps) {xs : List (Nat × Operand)} {ps : List (Nat × AV)} (h : evParts tm xs = some ps) :
    ps.length = (xs.map fun (i, x) => (i, a.eval x)).length ∧ ∀ (j : Nat) p q, ps[j]? = some p → (xs.map fun (i, x) => (i, a.eval x))[j]? = some q → p.1 = q.1 ∧ V E p.2 q.2 := by
  obtain ⟨h1, h2⟩ := mapO_spec h
  refine ⟨by simp [h1], fun j p q hp hq => ?_⟩
  rw [List.getElem?_map] at hq
  cases ho : xs[j]? with
  | none => simp [ho] at hq
  | some o =>
    obtain ⟨i, x⟩ := o
    simp only [ho, Option.map_some, Option.some.injEq] at hq
    subst hq
    have := h2 j (i, x) p ho hp
    simp only at this
    cases hx : ev tm x with
    | none => simp [hx] at this
    | some v => simp only [hx, Option.map_some, Option.some.injEq] at this; subst this; exact ⟨rfl, ev_spec ht hx⟩

theorem build_ok {t : Nat} {parts : List (Nat × AV)} {partsV : List (Nat × Value)} {y : AV} (h : buildA P t parts = some y) (hl : parts.length = partsV.length) (hps : ∀ (j : Nat) p q, parts[j]? = some p → partsV[j]? = some q → p.1 = q.1 ∧ V E p.2 q.2) :
    Gives P E (Instr.build t partsV.toArray) y := by
  unfold buildA at h
  split at h <;> try (cases h; done)
  rename_i z hz
  obtain ⟨zv, hz1, hz2⟩ := tzero_spec hz
  have hzc := (hz2 E).cells
  split at h
  · rename_i fields hu
    split at h <;> try (cases h; done)
    rename_i hall
    obtain ⟨ps, hps1, hps2⟩ := mapM_places (P := P) (fields := fields) (eq_true_of_ne_false hall) E.w
    obtain ⟨r, hf, rfl⟩ := Option.map_eq_some_iff.1 h
    obtain ⟨rv, h1, h2⟩ := fill_ok (placeV := (ps[·]?)) (fun i p hp => by
      split at hp <;> try (cases hp; done)
      rename_i f hfi
      split at hp <;> try (cases hp; done)
      rename_i n hn
      cases hp
      exact hps2 i f n hfi hn) parts partsV _ _ r hf hzc hl hps
    refine ⟨.agg rv, ?_, ?_⟩
    · simp only [Instr.build, Sem.run_bind, hz1, Result.andThen_ok, run_underlying hu, hps1, h1]
      rfl
    · have := V.mkAgg h2
      simpa using this
  · rename_i len elem hu
    split at h <;> try (cases h; done)
    rename_i n hn
    obtain ⟨r, hf, rfl⟩ := Option.map_eq_some_iff.1 h
    obtain ⟨rv, h1, h2⟩ := fill_ok (placeV := fun i => some (i * n, n)) (fun i p hp => hp) parts partsV _ _ r hf hzc hl hps
    refine ⟨.agg rv, ?_, ?_⟩
    · simp only [Instr.build, Sem.run_bind, hz1, Result.andThen_ok, run_underlying hu, run_tsz hn, h1]
      rfl
    · have := V.mkAgg h2
      simpa using this
  · cases h
end Go.Ab

/- The abstract machine: arithmetic, strings, comparisons, conversions of values. -/
namespace Go.Ab
set_option linter.unusedSectionVars false
variable [HasBase]
set_option linter.unusedVariables false
set_option linter.unusedSimpArgs false

variable {P : Program} {E : Env}

theorem Gives.pure {x : AV} {v : Value} (h : V E x v) : Gives P E (Pure.pure v) x := ⟨v, rfl, h⟩

theorem cmpInt_ok {op : BinOp} {a b : Int} {y : AV} (h : cmpInt op a b = some y) : Gives P E (Op.intCmp op a b) y := by
  cases op <;> simp only [cmpInt, Option.some.injEq] at h <;> first
    | (cases h; done)
    | (subst h; exact .pure (.bool _))

theorem bits_ok {op : BinOp} {k : IntKind} {a b : Int} {y : AV} (h : bitsA op k a b = some y) : Gives P E (Op.intBits op k a b) y := by
  cases op <;> simp only [bitsA, Option.some.injEq] at h <;> first
    | (cases h; done)
    | (subst h; exact .pure (.int _ _))

theorem int_ok {op : BinOp} {t : Nat} {k : IntKind} {a b : Int} {y : AV} (h : intOp op k a b = some y) : Gives P E (binOp op t (.int k a) (.int k b)) y := by
  cases op <;> simp only [intOp] at h <;> simp only [binOp, ne_eq, not_true_eq_false, if_false] <;> first
    | (cases h; done)
    | (exact cmpInt_ok h)
    | (exact bits_ok h)
    | (simp only [Option.some.injEq] at h; subst h; exact .pure (.int _ _))
    | (split at h
       · cases h
       · rename_i hb
         simp only [Option.some.injEq] at h; subst h
         simp only [Op.intDiv, hb, if_false]
         exact .pure (.int _ _))

theorem str_ok {op : BinOp} {a b : List UInt8} {x y : ByteArray} {r : AV} (h : strOp op a b = some r) (hx : x.data.toList = a) (hy : y.data.toList = b) : Gives P E (Op.stringOp op x y) r := by
  have ex : x.toList = a := by rw [ByteArray.toList_eq]; exact hx
  have ey : y.toList = b := by rw [ByteArray.toList_eq]; exact hy
  have sx : x.size = a.length := by rw [← hx, Array.length_toList]; rfl
  have sy : y.size = b.length := by rw [← hy, Array.length_toList]; rfl
  cases op <;> simp only [strOp, Option.some.injEq] at h <;> simp only [Op.stringOp, ex, ey, sx, sy] <;> first
    | (cases h; done)
    | (subst h; exact .pure (.bool _))
    | (split at h <;> try (cases h; done)
       rename_i hlt
       simp only [Option.some.injEq] at h; subst h
       rw [if_neg]
       · refine .pure (.str _ _ ?_)
         rw [ByteArray.data_append, Array.toList_append, hx, hy]
       · simp only [IntKind.max, IntKind.signed, IntKind.bits, if_true]
         have : (2 : Int) ^ (64 - 1) - 1 = 9223372036854775807 := by decide
         rw [this]
         have h2 : (2 : Nat) ^ 62 = 4611686018427387904 := by decide
         rw [h2] at hlt
         omega)

theorem bytes_beq {x y : ByteArray} {a b : List UInt8} (hx : x.data.toList = a) (hy : y.data.toList = b) : (x == y) = (a == b) := by
  subst hx; subst hy
  rw [beq_toListBytes, ByteArray.toList_eq, ByteArray.toList_eq]

/-! ### '==' down the types -/
theorem eqFields_ok {r : TypeId → AV → AV → Option Bool} {d : Nat} (hr : ∀ t x y b vx vy, r t x y = some b → V E x vx → V E y vy → (Op.equalIn d t vx vy).run P E.w = .ok b E.w) {xs ys : List AV} {vx vy : Array Value}
    (hx : VL E xs vx.toList) (hy : VL E ys vy.toList) : ∀ (fs : List Field) (b : Bool), eqFields P r xs ys fs = some b → (Op.eqFields d vx vy fs).run P E.w = .ok b E.w
  | [], b, h => by simp only [eqFields, Option.some.injEq] at h; subst h; simp [Op.eqFields]
  | f :: fs, b, h => by
    unfold eqFields at h
    split at h
    · rename_i hn
      simp only [Op.eqFields, hn, ne_eq, not_true_eq_false, if_false]
      exact eqFields_ok hr hx hy fs b h
    · rename_i hn
      split at h <;> try (cases h; done)
      rename_i a1 b1 h1 h2
      obtain ⟨u, e1, v1⟩ := part_ok h1 hx
      obtain ⟨v, e2, v2⟩ := part_ok h2 hy
      simp only [Op.eqFields, ne_eq, hn, not_false_eq_true, if_true, Sem.run_bind, e1, e2, Result.andThen_ok]
      split at h <;> try (cases h; done)
      · rename_i hb
        rw [hr _ _ _ _ _ _ hb v1 v2]
        simpa using eqFields_ok hr hx hy fs b h
      · rename_i hb
        rw [hr _ _ _ _ _ _ hb v1 v2]
        simp only [Option.some.injEq] at h; subst h
        simp

theorem eqArr_ok {r : TypeId → AV → AV → Option Bool} {d elem n : Nat} (hr : ∀ t x y b vx vy, r t x y = some b → V E x vx → V E y vy → (Op.equalIn d t vx vy).run P E.w = .ok b E.w) {xs ys : List AV} {vx vy : Array Value}
    (hx : VL E xs vx.toList) (hy : VL E ys vy.toList) : ∀ (m i : Nat) (b : Bool), eqArr P r elem n xs ys m i = some b → (Op.eqItems d elem n vx vy (List.range' i m)).run P E.w = .ok b E.w
  | 0, i, b, h => by simp only [eqArr, Option.some.injEq] at h; subst h; simp [Op.eqItems]
  | m + 1, i, b, h => by
    unfold eqArr at h
    split at h <;> try (cases h; done)
    rename_i a1 b1 h1 h2
    obtain ⟨u, e1, v1⟩ := part_ok h1 hx
    obtain ⟨v, e2, v2⟩ := part_ok h2 hy
    rw [List.range'_succ]
    simp only [Op.eqItems, Sem.run_bind, e1, e2, Result.andThen_ok]
    split at h <;> try (cases h; done)
    · rename_i hb
      rw [hr _ _ _ _ _ _ hb v1 v2]
      simpa using eqArr_ok hr hx hy m (i + 1) b h
    · rename_i hb
      rw [hr _ _ _ _ _ _ hb v1 v2]
      simp only [Option.some.injEq] at h; subst h
      simp

theorem eqA_ok : ∀ (d D : Nat), d ≤ D → ∀ (t : Nat) (x y : AV) (b : Bool) (vx vy : Value), eqA P d t x y = some b → V E x vx → V E y vy → (Op.equalIn D t vx vy).run P E.w = .ok b E.w
  | 0, D, hd, t, x, y, b, vx, vy, h, hx, hy => by simp [eqA] at h
  | d + 1, 0, hd, t, x, y, b, vx, vy, h, hx, hy => by omega
  | d + 1, D + 1, hd, t, x, y, b, vx, vy, h, hx, hy => by
    have ih := fun t x y b vx vy h hx hy => eqA_ok d D (by omega) t x y b vx vy h hx hy
    unfold eqA at h
    split at h
    · rename_i k0 k a k' a' hu
      obtain rfl := hx.int_inv
      obtain rfl := hy.int_inv
      split at h <;> try (cases h; done)
      rename_i hk
      simp only [Option.some.injEq] at h; subst h
      simp [Op.equalIn, Sem.run_bind, run_underlying hu, hk]
    · rename_i a a' hu
      obtain ⟨s, rfl, hs⟩ := hx.str_inv
      obtain ⟨s', rfl, hs'⟩ := hy.str_inv
      simp only [Option.some.injEq] at h; subst h
      simp [Op.equalIn, Sem.run_bind, run_underlying hu, bytes_beq hs hs']
    · rename_i a a' hu
      obtain rfl := hx.bool_inv
      obtain rfl := hy.bool_inv
      simp only [Option.some.injEq] at h; subst h
      simp [Op.equalIn, Sem.run_bind, run_underlying hu]
    · rename_i fields xs ys hu
      obtain ⟨vs, rfl, hvs⟩ := hx.agg_inv
      obtain ⟨us, rfl, hus⟩ := hy.agg_inv
      split at h <;> try (cases h; done)
      rename_i hst
      have hfo : P.fieldsOf t = fields := by simp [Program.fieldsOf, hu]
      rw [run_equalIn_struct E.w D t vs us (by rw [hfo]; exact hu) hst, hfo]
      exact eqFields_ok ih hvs hus _ b h
    · rename_i len elem xs ys hu
      obtain ⟨vs, rfl, hvs⟩ := hx.agg_inv
      obtain ⟨us, rfl, hus⟩ := hy.agg_inv
      split at h <;> try (cases h; done)
      rename_i n hn
      obtain ⟨i, hi, _⟩ := tsz_spec hn
      rw [run_equalIn_array E.w D vs us hu hi, List.range_eq_range', cellsOf_tsz hn]
      exact eqArr_ok ih hvs hus len 0 b h
    · cases h

set_option maxHeartbeats 1000000 in
theorem nilEqIn_ok (D : Nat) {t : Nat} {d : TypeDesc} {x y : AV} {b : Bool} {vx vy : Value} (hu : P.underlying t = some d) (h : nilEq d x y = some b) (hx : V E x vx) (hy : V E y vy) : (Op.equalIn (D + 1) t vx vy).run P E.w = .ok b E.w := by
  unfold nilEq at h
  split at h <;> (try (cases h; done)) <;> simp only [Option.some.injEq] at h <;> subst h <;> cases hx <;> cases hy <;> (simp only [Op.equalIn, Sem.run_bind, run_underlying hu, Result.andThen_ok]; rfl)
theorem nilEq_ok {t : Nat} {d : TypeDesc} {x y : AV} {b : Bool} {vx vy : Value} (hu : P.underlying t = some d) (h : nilEq d x y = some b) (hx : V E x vx) (hy : V E y vy) : (Op.equal t vx vy).run P E.w = .ok b E.w :=
  nilEqIn_ok 9999 hu h hx hy

/-- Not two values that binOp takes by itself. -/
def plainPair : Value → Value → Bool
  | .int .., .int .. | .float .., .float .. | .complex .., .complex .. | .string _, .string _ => false
  | _, _ => true

theorem binOp_eql {t : Nat} {x y : Value} (h : plainPair x y = true) : binOp .eql t x y = (do pure (.bool (← Op.equal t x y))) := by
  cases x <;> cases y <;> first | rfl | (cases h; done)
theorem binOp_neq {t : Nat} {x y : Value} (h : plainPair x y = true) : binOp .neq t x y = (do pure (.bool (!(← Op.equal t x y)))) := by
  cases x <;> cases y <;> first | rfl | (cases h; done)

theorem guard_nil {op : BinOp} {t : Nat} {ox oy : Operand} (h : (isConst ox || isConst oy) = true) (w : World) : (eqGuard op t ox oy .nilIface .nilIface).run P w = .ok () w := by
  cases op <;> first
    | rfl
    | (cases ox <;> cases oy <;> first | rfl | (cases h; done))

theorem guard_plain {op : BinOp} {t : Nat} {ox oy : Operand} {x y : Value} (h1 : ∀ vs us, ¬ (x = .agg vs ∧ y = .agg us)) (h2 : ¬ (x = .nilIface ∧ y = .nilIface)) (w : World) : (eqGuard op t ox oy x y).run P w = .ok () w := by
  cases op <;> first
    | rfl
    | (cases x <;> first
        | rfl
        | (cases y <;> first
            | rfl
            | (exact absurd ⟨rfl, rfl⟩ (h1 _ _))
            | (exact absurd ⟨rfl, rfl⟩ h2)))

theorem equal_bool {t : Nat} (a b : Bool) (hu : P.underlying t = some .bool) (w : World) : (Op.equal t (.bool a) (.bool b)).run P w = .ok (a == b) w := by
  have : ∀ D, (Op.equalIn (D + 1) t (.bool a) (.bool b)).run P w = .ok (a == b) w := fun D => by simp [Op.equalIn, Sem.run_bind, run_underlying hu]
  exact this 9999
theorem equal_nil {t : Nat} {ms : Array (String × TypeId)} (hu : P.underlying t = some (.interface ms)) (w : World) : (Op.equal t .nilIface .nilIface).run P w = .ok true w := by
  have : ∀ D, (Op.equalIn (D + 1) t .nilIface .nilIface).run P w = .ok true w := fun D => by simp [Op.equalIn, Sem.run_bind, run_underlying hu]
  exact this 9999
theorem equal_ptr {t e n : Nat} (hu : P.underlying t = some (.pointer e)) (hn : tsz P e = some (n + 1)) (b o1 o2 : Nat) (w : World) : (Op.equal t (.pointer (some ⟨b, o1, none⟩)) (.pointer (some ⟨b, o2, none⟩))).run P w = .ok (o1 == o2) w := by
  have e1 : ((⟨b, o1, none⟩ : Addr) == ⟨b, o2, none⟩) = (o1 == o2) := by
    rw [Bool.eq_iff_iff]; simp
  have : ∀ D, (Op.equalIn (D + 1) t (.pointer (some ⟨b, o1, none⟩)) (.pointer (some ⟨b, o2, none⟩))).run P w = .ok (o1 == o2) w := fun D => by
    simp only [Op.equalIn, Sem.run_bind, run_underlying hu, Result.andThen_ok, run_tsz hn, sameAddr]
    simp [e1]
  exact this 9999

theorem bin_ok {op : BinOp} {t : Nat} {ox oy : Operand} {x y r : AV} {vx vy : Value} (h : binA P op t ox oy x y = some r) (hx : V E x vx) (hy : V E y vy) :
    Gives P E (do eqGuard op t ox oy vx vy; binOp op t vx vy) r := by
  have guard : (∀ vs us, ¬ (vx = .agg vs ∧ vy = .agg us)) → ¬ (vx = .nilIface ∧ vy = .nilIface) → Gives P E (binOp op t vx vy) r → Gives P E (do eqGuard op t ox oy vx vy; binOp op t vx vy) r := by
    rintro h1 h2 ⟨v, e, hv⟩
    exact ⟨v, by rw [Sem.run_bind, guard_plain h1 h2]; exact e, hv⟩
  have eqlOk : ∀ b, plainPair vx vy = true → (Op.equal t vx vy).run P E.w = .ok b E.w → (op = .eql ∧ r = .bool b ∨ op = .neq ∧ r = .bool (!b)) → Gives P E (binOp op t vx vy) r := by
    rintro b hp he (⟨rfl, rfl⟩ | ⟨rfl, rfl⟩)
    · exact ⟨.bool b, by rw [binOp_eql hp]; simp [Sem.run_bind, he], .bool _⟩
    · exact ⟨.bool (!b), by rw [binOp_neq hp]; simp [Sem.run_bind, he], .bool _⟩
  unfold binA at h
  split at h
  · rename_i k a k' b
    obtain rfl := hx.int_inv
    obtain rfl := hy.int_inv
    refine guard (by rintro _ _ ⟨h1, _⟩; cases h1) (by rintro ⟨h1, _⟩; cases h1) ?_
    split at h
    · split at h <;> try (cases h; done)
      rename_i hb
      simp only [Option.some.injEq] at h; subst h
      simp only [binOp, Op.shift, hb, if_false]
      exact .pure (.int _ _)
    · split at h <;> try (cases h; done)
      rename_i hb
      simp only [Option.some.injEq] at h; subst h
      simp only [binOp, Op.shift, hb, if_false]
      exact .pure (.int _ _)
    · split at h <;> try (cases h; done)
      rename_i hk; subst hk
      exact int_ok h
  · rename_i a b
    obtain ⟨s, rfl, hs⟩ := hx.str_inv
    obtain ⟨s', rfl, hs'⟩ := hy.str_inv
    refine guard (by rintro _ _ ⟨h1, _⟩; cases h1) (by rintro ⟨h1, _⟩; cases h1) ?_
    have := str_ok (P := P) (E := E) h hs hs'
    cases op <;> simpa only [binOp] using this
  · cases hx; cases hy
    split at h <;> (try (cases h; done)) <;> rename_i ms hu <;> split at h <;> (try (cases h; done)) <;> rename_i hc <;> simp only [Option.some.injEq] at h <;> subst h
    · refine ⟨.bool true, ?_, .bool _⟩
      rw [Sem.run_bind, guard_nil hc, Result.andThen_ok, binOp_eql rfl, Sem.run_bind, equal_nil hu]
      rfl
    · refine ⟨.bool false, ?_, .bool _⟩
      rw [Sem.run_bind, guard_nil hc, Result.andThen_ok, binOp_neq rfl, Sem.run_bind, equal_nil hu]
      rfl
  · rename_i a b
    split at h <;> try (cases h; done)
    rename_i hgt
    obtain ⟨vs, rfl, hvs⟩ := hx.agg_inv
    obtain ⟨us, rfl, hus⟩ := hy.agg_inv
    have hg := run_eqGuard_agg (P := P) E.w op t ox oy vs us hgt
    split at h <;> (try (cases h; done)) <;> rename_i b hb <;> simp only [Option.some.injEq] at h <;> subst h
    · refine ⟨.bool b, ?_, .bool _⟩
      rw [Sem.run_bind, hg, Result.andThen_ok, binOp_eql rfl]
      have := eqA_ok eqDepth Op.maxDepth (by decide) t _ _ b _ _ hb hx hy
      simp [Op.equal, Sem.run_bind, this]
    · refine ⟨.bool (!b), ?_, .bool _⟩
      rw [Sem.run_bind, hg, Result.andThen_ok, binOp_neq rfl]
      have := eqA_ok eqDepth Op.maxDepth (by decide) t _ _ b _ _ hb hx hy
      simp [Op.equal, Sem.run_bind, this]
  · rename_i a b
    obtain rfl := hx.bool_inv
    obtain rfl := hy.bool_inv
    refine guard (by rintro _ _ ⟨h1, _⟩; cases h1) (by rintro ⟨h1, _⟩; cases h1) ?_
    split at h <;> (try (cases h; done)) <;> rename_i hu <;> simp only [Option.some.injEq] at h <;> subst h
    · exact eqlOk (a == b) rfl (equal_bool a b hu _) (.inl ⟨rfl, rfl⟩)
    · exact eqlOk (a == b) rfl (equal_bool a b hu _) (.inr ⟨rfl, rfl⟩)
  · rename_i i a j b
    split at h <;> try (cases h; done)
    rename_i e hu
    cases hx with
    | ptr _ _ b1 o1 h1 =>
      cases hy with
      | ptr _ _ b2 o2 h2 =>
        refine guard (by rintro _ _ ⟨h1, _⟩; cases h1) (by rintro ⟨h1, _⟩; cases h1) ?_
        have key : i = j → ∀ n, tsz P e = some (n + 1) → (Op.equal t (.pointer (some ⟨b1, o1 + a, none⟩)) (.pointer (some ⟨b2, o2 + b, none⟩))).run P E.w = .ok (a == b) E.w := by
          rintro rfl n hn
          rw [h1] at h2; cases h2
          rw [equal_ptr hu hn]
          congr 1
          rw [Bool.eq_iff_iff]; simp
        split at h <;> (try (cases h; done)) <;> rename_i n hn <;> split at h <;> (try (cases h; done)) <;> rename_i hij <;> simp only [Option.some.injEq] at h <;> subst h
        · exact eqlOk (a == b) rfl (key hij n hn) (.inl ⟨rfl, rfl⟩)
        · exact eqlOk (a == b) rfl (key hij n hn) (.inr ⟨rfl, rfl⟩)
  · rename_i n1 n2 n3 n4 n5 n6
    have key : ∀ d b, P.underlying t = some d → nilEq d x y = some b → plainPair vx vy = true ∧ (∀ vs us, ¬ (vx = .agg vs ∧ vy = .agg us)) ∧ ¬ (vx = .nilIface ∧ vy = .nilIface) := by
      intro d b hu hb
      unfold nilEq at hb
      split at hb <;> (try (cases hb; done)) <;> cases hx <;> cases hy <;> refine ⟨rfl, ?_, ?_⟩ <;> simp
    split at h <;> try (cases h; done)
    all_goals
      rename_i b hb
      obtain ⟨d, hu, hd⟩ := Option.bind_eq_some_iff.1 hb
      obtain ⟨k1, k2, k3⟩ := key d b hu hd
      simp only [Option.some.injEq] at h; subst h
      refine guard k2 k3 ?_
    · exact eqlOk b k1 (nilEq_ok hu hd hx hy) (.inl ⟨rfl, rfl⟩)
    · exact eqlOk b k1 (nilEq_ok hu hd hx hy) (.inr ⟨rfl, rfl⟩)

theorem un_ok {op : UnOp} {x r : AV} {v : Value} (h : unA op x = some r) (hx : V E x v) : Gives P E (Op.unary op v) r := by
  unfold unA at h
  split at h
  · obtain rfl := hx.int_inv
    simp only [Option.some.injEq] at h; subst h
    exact .pure (.int _ _)
  · obtain rfl := hx.int_inv
    exact bits_ok h
  · obtain rfl := hx.bool_inv
    simp only [Option.some.injEq] at h; subst h
    exact .pure (.bool _)
  · cases h

theorem assert_ok {x r : AV} {v : Value} {xt t : Nat} {ok : Bool} (h : assertA P x t ok = some r) (hx : V E x v) : Gives P E (Instr.typeAssert v xt t ok) r := by
  unfold assertA at h
  split at h
  · cases h
  · rename_i d t' x' hu hni
    cases hx with
    | ifc _ _ v' hv =>
      have hrun : ∀ (s : Sem Value), (Instr.typeAssert (.iface t' v') xt t ok = s) → True := fun _ _ => trivial
      split at h
      · rename_i ht
        simp only [Option.some.injEq] at h; subst h
        subst ht
        refine ⟨if ok then .tuple #[v', .bool true] else v', ?_, ?_⟩
        · simp only [Instr.typeAssert, Sem.run_bind, run_underlying hni, Result.andThen_ok]
          cases d <;> first | (exact absurd rfl (hu _)) | (simp only [if_true]; rfl)
        · cases ok
          · exact hv
          · exact V.mkTup (vs := [v', .bool true]) (.cons hv (.cons (.bool _) (.nil _)))
      · rename_i ht
        split at h <;> try (cases h; done)
        rename_i hok
        obtain ⟨z, hz, rfl⟩ := Option.map_eq_some_iff.1 h
        obtain ⟨zv, h1, h2⟩ := tzero_spec hz
        refine ⟨.tuple #[zv, .bool false], ?_, V.mkTup (vs := [zv, .bool false]) (.cons (h2 E) (.cons (.bool _) (.nil _)))⟩
        simp only [Instr.typeAssert, Sem.run_bind, run_underlying hni, Result.andThen_ok, hok]
        cases d <;> first | (exact absurd rfl (hu _)) | (simp only [ht, if_false, if_true, Sem.run_bind, h1]; rfl)
  · rename_i d hu hni
    cases hx
    split at h <;> try (cases h; done)
    rename_i hok
    obtain ⟨z, hz, rfl⟩ := Option.map_eq_some_iff.1 h
    obtain ⟨zv, h1, h2⟩ := tzero_spec hz
    refine ⟨.tuple #[zv, .bool false], ?_, V.mkTup (vs := [zv, .bool false]) (.cons (h2 E) (.cons (.bool _) (.nil _)))⟩
    simp only [Instr.typeAssert, Sem.run_bind, run_underlying hni, Result.andThen_ok, hok]
    cases d <;> first | (exact absurd rfl (hu _)) | (simp only [if_true, Sem.run_bind, h1]; rfl)
  · cases h

theorem minmax_ok {b : Bool} {k : IntKind} : ∀ {xs : List AV} {vs : List Value} {a r : Int}, minmax b a xs = some r → VL E xs vs →
    (vs.foldlM (if b then Builtin.max2 else Builtin.min2) (.int k a)).run P E.w = .ok (.int k r) E.w
  | [], vs, a, r, h, hv => by
    simp only [minmax, Option.some.injEq] at h; subst h
    rw [hv.inv_nil]; simp
  | x :: xs, vs, a, r, h, hv => by
    obtain ⟨v, us, rfl, h1, h2⟩ := hv.inv
    cases x <;> simp only [minmax] at h <;> try (cases h; done)
    obtain rfl := h1.int_inv
    rw [List.foldlM_cons, Sem.run_bind]
    cases b
    · simp only [Bool.false_eq_true, if_false] at h ⊢
      simp only [Builtin.min2, Sem.run_pure, Result.andThen_ok]
      have := minmax_ok (k := k) h h2
      simpa using this
    · simp only [if_true] at h ⊢
      simp only [Builtin.max2, Sem.run_pure, Result.andThen_ok]
      have := minmax_ok (k := k) h h2
      simpa using this
end Go.Ab

/- The abstract machine: operations that read or write memory. -/
namespace Go.Ab
set_option linter.unusedSectionVars false
variable [HasBase]
set_option linter.unusedVariables false
set_option linter.unusedSimpArgs false

variable {P : Program} {E : Env}

/-- What a step comes to: the value of x, in an env that extends E by the ids from n on, below n'. -/
def Comes1 (P : Program) (E : Env) (g : Nat → Ob) (n : Nat) (s : Sem Value) (x : AV) (g' : Nat → Ob) (n' : Nat) : Prop :=
  ∃ v E', s.run P E.w = .ok v E'.w ∧ V E' x v ∧ Ext E E' n n' ∧ Sat E' g'

theorem Comes1.of_gives {g : Nat → Ob} {n : Nat} {s : Sem Value} {x : AV} (h : Gives P E s x) (hs : Sat E g) : Comes1 P E g n s x g n := by
  obtain ⟨v, h1, h2⟩ := h
  exact ⟨v, E, h1, h2, Ext.refl E n, hs⟩

/-- Where a load looks: a row that holds r from off on. -/
def Looks (E : Env) (a : AV) (n : Nat) (r : List AV) : Prop :=
  ∀ id off b o, a = .ptr id off → E.mu id = some (b, o) → ∃ bx e cs, ObRel E b o (.row bx e cs) ∧ (cs.drop off).take n = r ∧ r.length = n

theorem looks_of {H : Heap} {a : AV} {n : Nat} {r : List AV} (hs : Sat E H.get) (h : rd H a n = some r) : Looks E a n r := by
  rintro id off b o rfl hm
  have hob := hs.ob id b o hm
  simp only [rd] at h
  split at h <;> try (cases h; done)
  rename_i bx e0 cs hg
  split at h <;> try (cases h; done)
  rename_i hl
  simp only [Option.some.injEq] at h
  rw [hg] at hob
  exact ⟨bx, e0, cs, hob, h, by rw [← h]; exact hl⟩

theorem cells_of {H : Heap} {a : AV} {n : Nat} {r : List AV} {va : Value} (h : rd H a n = some r) (hx : V E a va) (hl : Looks E a n r) :
    ∃ b o vs, va = .pointer (some ⟨b, o, none⟩) ∧ (loadCells ⟨b, o, none⟩ n).run P E.w = .ok vs.toArray E.w ∧ VL E r vs := by
  unfold rd at h
  split at h <;> try (cases h; done)
  · rename_i id off
    cases hx with
    | ptr _ _ b o hm =>
      obtain ⟨bx, e, cs, ⟨c, lo, hi, hr⟩, h1, h2⟩ := hl id off b o rfl hm
      obtain ⟨vs, h3, h4⟩ := run_readRow (P := P) (n := n) (by rw [← h1]; exact hr.at_.sub off n) h2
      exact ⟨b, o + off, vs, rfl, h3, h4⟩
  · rename_i tmp cs off
    dsimp only at h
    split at h <;> try (cases h; done)
    rename_i hlen
    simp only [Option.some.injEq] at h; subst h
    cases hx with
    | eptr _ _ _ b o vs hi hc hcl hcell hv =>
      have hat : At E b o cs := fun j x hj => ⟨hc x (List.mem_of_getElem? hj), vs j, hcell j x hj, hv j x hj⟩
      obtain ⟨us, h3, h4⟩ := run_readRow (P := P) (n := n) (hat.sub off n) hlen
      exact ⟨b, o + off, us, rfl, h3, h4⟩

theorem load_ok {H : Heap} {t : Nat} {a x : AV} {va : Value} (h : loadA P H t a = some x) (hx : V E a va) (hl : ∀ n r, loadN P t = some n → rd H a n = some r → Looks E a n r) : Gives P E (Instr.loadAt t va) x := by
  unfold loadA at h
  split at h
  · rename_i n ht hn
    split at h <;> try (cases h; done)
    rename_i r hr
    simp only [Option.some.injEq] at h; subst h
    obtain ⟨b, o, vs, rfl, h3, h4⟩ := cells_of (P := P) hr hx (hl n r hn hr)
    have hn' : tsz P t = some n := by simpa [loadN, ht] using hn
    refine ⟨.agg vs.toArray, ?_, V.mkAgg h4⟩
    simp only [Instr.loadAt, Instr.sureAddr, loadVar, Sem.run_bind, Sem.run_pure, Result.andThen_ok, run_tagg ht, if_true, run_tsz hn', h3]
  · rename_i n ht hn
    split at h <;> try (cases h; done)
    rename_i v hr
    simp only [Option.some.injEq] at h; subst h
    have hn' : n = 1 := by simpa [loadN, ht, eq_comm] using hn
    subst hn'
    obtain ⟨b, o, vs, rfl, h3, h4⟩ := cells_of (P := P) hr hx (hl 1 _ hn hr)
    obtain ⟨u, us, rfl, h5, h6⟩ := h4.inv
    obtain rfl := h6.inv_nil
    refine ⟨u, ?_, h5⟩
    have hload : (load ⟨b, o, none⟩).run P E.w = .ok u E.w := by
      unfold loadCells at h3
      simp only [loadCellsFrom, addr_add, Nat.add_zero, Sem.run_bind] at h3
      cases hr2 : (load ⟨b, o, none⟩).run P E.w with
      | halt x w => rw [hr2] at h3; cases h3
      | ok y w =>
        rw [hr2] at h3
        simp only [Result.andThen_ok, Sem.run_pure, Result.ok.injEq] at h3
        obtain ⟨h7, rfl⟩ := h3
        have : y = u := by simpa using h7
        rw [this]
    simp only [Instr.loadAt, Instr.sureAddr, loadVar, Sem.run_bind, Sem.run_pure, Result.andThen_ok, run_tagg ht, Bool.false_eq_true, if_false, hload]
  · cases h

/-- A store. -/
theorem store_ok {H H' : Heap} {g : Nat → Ob} {t : Nat} {a x : AV} {va vx : Value} (h : storeA P H t a x = some H') (ha : V E a va) (hx : V E x vx) (hs : Sat E g) (hg : ∀ id off, a = .ptr id off → g id = H.get id) (n : Nat) (hn : ∀ id off, a = .ptr id off → id < n) :
    ∃ E' id off, a = .ptr id off ∧ (Instr.storeAt t va vx).run P E.w = .ok () E'.w ∧ Ext E E' n n ∧ id < H.n ∧ ∃ ob, H' = H.set id ob ∧ Sat E' (fun i => if i = id then ob else g i) := by
  unfold storeA at h
  split at h <;> try (cases h; done)
  rename_i id off sz hsz
  split at h <;> try (cases h; done)
  rename_i bx e0 cs hget
  dsimp only at h
  split at h <;> try (cases h; done)
  rename_i hc
  obtain ⟨h1, h2, h3, h4⟩ := hc
  simp only [Option.some.injEq] at h; subst h
  cases ha with
  | ptr _ _ b o hm =>
    have hob := hs.ob id b o hm
    rw [hg id off rfl, hget] at hob
    obtain ⟨c, lo, hi, hr⟩ := hob
    have hcv := hx.cells
    have hsz' : vx.cells.size = sz := by have := hcv.1; simp at this; omega
    have hcell : ∀ x', x' ∈ x.cells → x'.isCell = true := by simpa [List.all_eq_true] using h2
    obtain ⟨w', r1, r2, r3, r4⟩ := run_writeRow (P := P) hr hm (hn id off rfl) hcv hcell (by rw [h1]; exact h3)
    have hlive : (g id).live := by rw [hg id off rfl, hget]; trivial
    have hlt : id < H.n := by
      have : (H.get id).live := by rw [hget]; trivial
      exact Heap.get_lt this
    refine ⟨{ E with w := w' }, id, off, rfl, ?_, r2, hlt, _, rfl, hs.wrote r3 hm hlive r2 (by rw [← h1]; exact r4)⟩
    simp only [Instr.storeAt, Instr.sureAddr, storeVar, Sem.run_bind, Sem.run_pure, Result.andThen_ok, run_tsz hsz, hsz', ne_eq, not_true_eq_false, if_false, r1]

/-! ### new memory -/
/-- A step that makes one block and nothing else. -/
def News (P : Program) (E : Env) (n : Nat) (s : Sem Value) (x : AV) (ob : Ob) : Prop :=
  ∃ v o w0, s.run P E.w = .ok v (w0.alloc o) ∧ w0.heap = E.w.heap ∧ w0.os = E.w.os ∧ w0.tape = E.w.tape ∧ w0.output = E.w.output ∧
    ∀ E' : Env, E' = { mu := E.mu, perm := E.perm, w := w0 } → E.mu n = none → V (E'.alloc n o) x v ∧ ObRel (E'.alloc n o) w0.heap.size 0 ob

theorem drew_ext {E : Env} {w0 : World} (n : Nat) (h1 : w0.heap = E.w.heap) (h2 : w0.os = E.w.os) (h3 : w0.tape = E.w.tape) (h4 : w0.output = E.w.output) : Ext E { E with w := w0 } n n where
  le := Nat.le_refl _
  muOut _ _ := rfl
  muNew _ _ _ h1 h2 := absurd h2 (by omega)
  size := by simp [h1]
  perm _ h := h
  permNew _ h := .inl h
  frame b _ _ := by simp [h1]
  shape b s h := by simpa [World.shape?, h1] using h
  os := h2
  tape := h3
  output := h4

theorem Sat.of_heap {E : Env} {g : Nat → Ob} (h : Sat E g) {w0 : World} (hh : w0.heap = E.w.heap) (hv : ∀ x v, V E x v → V { E with w := w0 } x v) : Sat { E with w := w0 } g where
  base b o hb := ⟨(h.base b o hb).1, by rw [hh]; exact (h.base b o hb).2⟩
  muLt id b o hm := by simpa [hh] using h.muLt id b o hm
  permLt b hb := by simpa [hh] using h.permLt b hb
  permOwn b hb := h.permOwn b hb
  ob id b o hm := (h.ob id b o hm).mono_of (by simp [hh]) hv
  inj := h.inj

theorem News.comes {g : Nat → Ob} {n : Nat} {s : Sem Value} {x : AV} {ob : Ob} (h : News P E n s x ob) (hs : Sat E g) (hf : E.mu n = none) : Comes1 P E g n s x (fun i => if i = n then ob else g i) (n + 1) := by
  obtain ⟨v, o, w0, h1, h2, h3, h4, h5, h6⟩ := h
  obtain ⟨h7, h8⟩ := h6 _ rfl hf
  have e1 := drew_ext n h2 h3 h4 h5
  have s1 := hs.of_heap h2 fun x v hv => hv.mono e1 (fresh_refl E n)
  exact ⟨v, ({ E with w := w0 } : Env).alloc n o, h1, h7, e1.trans (alloc_ext _ n o) fun id h9 h10 => (by rw [show id = n from by omega]; exact hf), s1.alloc hf h8⟩

theorem newRow_run (w : World) (e : TypeId) (c : Array Value) : (newRow e c).run P w = .ok ⟨w.heap.size, 0, none⟩ (w.alloc (.cells c e)) := rfl

theorem V.env_eta (E : Env) : ({ mu := E.mu, perm := E.perm, w := E.w } : Env) = E := rfl

theorem box_ok {e : TypeId} {x : AV} {v : Value} (hx : V E x v) (hc : x.cells.all AV.isCell = true) (n : Nat) : News P E n (do pure (.pointer (some (← newVar e v)))) (.ptr n 0) (.row true e x.cells) := by
  refine ⟨.pointer (some ⟨E.w.heap.size, 0, none⟩), .cells v.cells e, E.w, ?_, rfl, rfl, rfl, rfl, ?_⟩
  · simp only [newVar, Sem.run_bind, newRow_run]; rfl
  · rintro _ rfl hf
    refine ⟨V.newPtr, ?_⟩
    have := newRow_ok (bx := true) (e := e) hf hx.cells (by simpa [List.all_eq_true] using hc) [] (fun _ => rfl)
    simpa using this

theorem alloc_ok {e : TypeId} {z : AV} (hz : tzero P e = some z) (hc : z.cells.all AV.isCell = true) (n : Nat) : News P E n (Instr.alloc e true (.tuple #[])) (.ptr n 0) (.row true e z.cells) := by
  obtain ⟨zv, h1, h2⟩ := tzero_spec hz
  obtain ⟨v, o, w0, h3, h4⟩ := box_ok (P := P) (e := e) (h2 E) hc n
  refine ⟨v, o, w0, ?_, h4⟩
  rw [← h3]
  simp [Instr.alloc, Sem.run_bind, h1]

theorem repL_length {α : Type} (x : List α) (n : Nat) : (repL x n).length = n * x.length := by
  induction n with
  | zero => simp [repL]
  | succ n ih => simp [repL, ih, Nat.succ_mul, Nat.add_comm]
theorem repL_get {α : Type} (x : List α) (hx : 0 < x.length) : ∀ (n i : Nat), i < n * x.length → (repL x n)[i]? = x[i % x.length]?
  | 0, i, h => by omega
  | n + 1, i, h => by
    rw [Nat.succ_mul] at h
    unfold repL
    by_cases hi : i < x.length
    · rw [List.getElem?_append_left hi, Nat.mod_eq_of_lt hi]
    · rw [List.getElem?_append_right (by omega), repL_get x hx n _ (by omega)]
      congr 1
      exact (Nat.mod_eq_sub_mod (by omega)).symm

theorem VL.rep {z : List AV} {zv : Array Value} (h : VL E z zv.toList) (hz : 0 < z.length) (len : Nat) {n : Nat} (hn : n = len * z.length) : VL E (repL z len) ((Array.range n).map (zv[· % zv.size]!)).toList := by
  have hsz : zv.size = z.length := by have := h.1; simp at this; omega
  refine ⟨by simp [repL_length, hn], fun j x v h1 h2 => ?_⟩
  have hj : j < len * z.length := by rw [← repL_length]; exact (List.getElem?_eq_some_iff.1 h1).1
  rw [repL_get z hz len j hj] at h1
  obtain ⟨u, h3, h4⟩ := h.get h1
  have hmod : j % zv.size < zv.size := Nat.mod_lt _ (by omega)
  rw [Array.toList_map, List.getElem?_map, Array.toList_range, List.getElem?_range (by omega)] at h2
  simp only [Option.map_some, Option.some.injEq] at h2
  rw [← hsz] at h3
  have : zv[j % zv.size]? = some u := by simpa using h3
  rw [← h2, getElem!_pos zv (j % zv.size) hmod]
  rw [Array.getElem?_eq_getElem hmod] at this
  cases this; exact h4

theorem buildSlice_ok {H H' : Heap} {t len : Nat} {parts : List (Nat × AV)} {partsV : List (Nat × Value)} {x : AV} (h : buildSliceA P H t len parts = some (x, H')) (hl : parts.length = partsV.length) (hps : ∀ (j : Nat) p q, parts[j]? = some p → partsV[j]? = some q → p.1 = q.1 ∧ V E p.2 q.2) :
    ∃ bx e cs, H' = H.push (.row bx e cs) ∧ News P E H.n (Instr.buildSlice t len partsV.toArray) x (.row bx e cs) := by
  unfold buildSliceA at h
  split at h <;> try (cases h; done)
  rename_i elem hu
  split at h <;> try (cases h; done)
  rename_i n z hn hz
  split at h <;> try (cases h; done)
  rename_i hc
  obtain ⟨hn0, hroom, hzl⟩ := hc
  split at h <;> try (cases h; done)
  rename_i cs hf
  split at h <;> try (cases h; done)
  rename_i hcell
  simp only [Option.some.injEq, Prod.mk.injEq] at h
  obtain ⟨rfl, rfl⟩ := h
  obtain ⟨zv, h1, h2⟩ := tzero_spec hz
  have hzc := (h2 E).cells
  by_cases h0 : len * n = 0
  · have hlen0 : len = 0 := by
      rcases Nat.mul_eq_zero.1 h0 with h | h
      · exact h
      · omega
    subst hlen0
    obtain ⟨rv, h3, h4⟩ := fill_ok (placeV := fun i => some (i * n, n)) (fun i p hp => hp) parts partsV (repL z.cells 0) #[] cs hf (VL.nil E) hl hps
    refine ⟨_, _, _, rfl, .slice (some ⟨E.w.heap.size, 0, none⟩) 0 0, .cells rv elem, E.w, ?_, rfl, rfl, rfl, rfl, ?_⟩
    · simp only [Instr.buildSlice, Sem.run_bind, run_underlying hu, Result.andThen_ok, run_tsz hn]
      simp only [Nat.zero_mul]
      rw [if_neg (by decide)]
      have e0 : (Array.map (fun x => (#[] : Array Value)[x % (#[] : Array Value).size]!) (Array.range 0)) = #[] := by
        apply Array.ext'
        simp
      simp only [if_true, Sem.run_bind, Sem.run_pure, Result.andThen_ok, e0, h3, newRow_run]
    · rintro _ rfl hf'
      refine ⟨V.newSl (Nat.le_refl _) (by omega), ?_⟩
      have := newRow_ok (bx := false) (e := elem) hf' h4 (by simpa [List.all_eq_true] using hcell) [] (fun h => by cases h)
      simpa using this
  · obtain ⟨rv, h3, h4⟩ := fill_ok (placeV := fun i => some (i * n, n)) (fun i p hp => hp) parts partsV (repL z.cells len) ((Array.range (len * n)).map (zv.cells[· % zv.cells.size]!)) cs hf (VL.rep hzc (by omega) len (by rw [hzl])) hl hps
    have hcs : cs.length = len * n := by
      have : ∀ (ps : List (Nat × AV)) (a b : List AV), fillA (fun i => some (i * n, n)) a ps = some b → b.length = a.length := by
        intro ps
        induction ps with
        | nil => intro a b h; simp only [fillA, Option.some.injEq] at h; rw [h]
        | cons p ps ih =>
          obtain ⟨i, y⟩ := p
          intro a b h
          simp only [fillA] at h
          split at h <;> try (cases h; done)
          rename_i hcond
          rw [ih _ _ h]
          simp only [List.length_append, List.length_take, List.length_drop]
          omega
      rw [this _ _ _ hf, repL_length, hzl]
    refine ⟨_, _, _, rfl, .slice (some ⟨E.w.heap.size, 0, none⟩) len len, .cells rv elem, E.w, ?_, rfl, rfl, rfl, rfl, ?_⟩
    · simp only [Instr.buildSlice, Sem.run_bind, run_underlying hu, Result.andThen_ok, run_tsz hn]
      rw [if_neg (by omega)]
      simp only [h0, if_false, Sem.run_bind, h1, Sem.run_pure, Result.andThen_ok, h3, newRow_run]
    · rintro _ rfl hf'
      have hrv : rv.size = len * n := by have := h4.1; simp at this; omega
      refine ⟨V.newSl (Nat.le_refl _) (by omega), ?_⟩
      have := newRow_ok (bx := false) (e := elem) hf' h4 (by simpa [List.all_eq_true] using hcell) [] (fun h => by cases h)
      simpa using this
end Go.Ab

/- The abstract machine: make, append, copy, clear. -/
namespace Go.Ab
set_option linter.unusedSectionVars false
variable [HasBase]
set_option linter.unusedVariables false
set_option linter.unusedSimpArgs false

variable {P : Program} {E : Env}

theorem wrap_i64 {n : Int} (h0 : -9223372036854775808 ≤ n) (h1 : n < 9223372036854775808) : IntKind.i64.wrap n = n := by
  have : IntKind.i64.wrap n = (if (true && decide (n % 18446744073709551616 ≥ 9223372036854775808)) = true then n % 18446744073709551616 - 18446744073709551616 else n % 18446744073709551616) := rfl
  rw [this]
  by_cases h : n % 18446744073709551616 ≥ 9223372036854775808
  · rw [if_pos (by simpa using h)]; omega
  · rw [if_neg (by simpa using h)]; omega

theorem makeSlice_ok {H H' : Heap} {t : Nat} {l c x : AV} {vl vc : Value} (h : makeSliceA P H t l c = some (x, H')) (hl : V E l vl) (hc : V E c vc) :
    ∃ bx e cs, H' = H.push (.row bx e cs) ∧ News P E H.n (Instr.makeSlice t vl vc) x (.row bx e cs) := by
  unfold makeSliceA at h
  split at h <;> try (cases h; done)
  rename_i elem k1 l k2 c hu
  obtain rfl := hl.int_inv
  obtain rfl := hc.int_inv
  split at h <;> try (cases h; done)
  rename_i n z bytes hn hz hb
  split at h <;> try (cases h; done)
  rename_i hcond
  obtain ⟨hn0, hl0, hlc, hc47, hcb, hzl, hcell⟩ := hcond
  simp only [Option.some.injEq, Prod.mk.injEq] at h
  obtain ⟨rfl, rfl⟩ := h
  obtain ⟨zv, h1, h2⟩ := tzero_spec hz
  have hzc := (h2 E).cells
  obtain ⟨ti, h3, h4⟩ := run_tbytes hb E.w
  have e47 : (2 : Int) ^ 47 = 140737488355328 := by decide
  have wl : IntKind.i64.wrap l = l := wrap_i64 (by omega) (by omega)
  have wc : IntKind.i64.wrap c = c := wrap_i64 (by omega) (by omega)
  have hcell' : ∀ y, y ∈ repL z.cells l.toNat → y.isCell = true := by
    have : ∀ m y, y ∈ repL z.cells m → y ∈ z.cells := by
      intro m
      induction m with
      | zero => intro y hy; simp [repL] at hy
      | succ m ih =>
        intro y hy
        simp only [repL, List.mem_append] at hy
        exact hy.elim id (ih y)
    intro y hy
    exact (List.all_eq_true.1 hcell) y (this _ y hy)
  have hroom : ∀ (x : Int), (x.toNat * bytes > 2 ^ 47) = (x.toNat * bytes > 2 ^ 47) := fun _ => rfl
  have hask : (askRoom (c.toNat * bytes)).run P E.w = .ok () E.w := by
    unfold askRoom
    split
    · rfl
    · rfl
  have hcn : (c.toNat : Int) = c := by omega
  have hgo : ∀ (zc : Array Value), VL E z.cells zc.toList → News P E H.n (do pure (.slice (some (← newRow elem ((Array.range (c.toNat * n)).map (zc[· % zc.size]!)))) l.toNat c.toNat)) (.sl H.n 0 l.toNat n) (.row false elem (repL z.cells l.toNat)) := by
    intro zc hzc'
    refine ⟨.slice (some ⟨E.w.heap.size, 0, none⟩) l.toNat c.toNat, .cells ((Array.range (c.toNat * n)).map (zc[· % zc.size]!)) elem, E.w, by simp only [Sem.run_bind, newRow_run]; rfl, rfl, rfl, rfl, rfl, ?_⟩
    rintro _ rfl hf
    refine ⟨V.newSl (by omega) (by simp), ?_⟩
    have hv := VL.rep hzc' (by omega) c.toNat (n := c.toNat * n) (by rw [hzl])
    have hsplit : repL z.cells c.toNat = repL z.cells l.toNat ++ repL z.cells (c.toNat - l.toNat) := by
      have : ∀ a b, repL z.cells (a + b) = repL z.cells a ++ repL z.cells b := by
        intro a b
        induction a with
        | zero => simp [repL]
        | succ a ih => rw [show a + 1 + b = (a + b) + 1 from by omega]; simp [repL, ih]
      rw [← this]; congr 1; omega
    rw [hsplit] at hv
    have hlen : (repL z.cells l.toNat).length = l.toNat * n := by rw [repL_length, hzl]
    have h5 := (hv.take (l.toNat * n))
    rw [List.take_append_of_le_length (by omega), List.take_of_length_le (by omega)] at h5
    have := newRow_ok (bx := false) (e := elem) hf h5 hcell' (((Array.range (c.toNat * n)).map (zc[· % zc.size]!)).toList.drop (l.toNat * n)) (fun h => by cases h)
    rw [List.take_append_drop, Array.toArray_toList] at this
    exact this
  refine ⟨_, _, _, rfl, ?_⟩
  obtain ⟨v, o, w0, g1, g2⟩ := hgo zv.cells hzc
  refine ⟨v, o, w0, ?_, g2⟩
  rw [← g1]
  simp only [Instr.makeSlice, asInt, asIntOf, Sem.run_bind, run_underlying hu, Sem.run_pure, Result.andThen_ok, h3, h4, wl, wc]
  have hbad : ((decide (c < 0) || decide ((bytes : Int) * c > 2 ^ 48)) || decide (l < 0) || decide (l > c)) = false := by
    have e48 : (2 : Int) ^ 48 = 281474976710656 := by decide
    rw [e48]
    simp; omega
  rw [if_neg (by rw [hbad]; decide)]
  simp only [Sem.run_bind, hask, Result.andThen_ok, run_tsz hn, Sem.run_pure]
  by_cases h0 : c.toNat * n = 0
  · have hc0 : c.toNat = 0 := by
      rcases Nat.mul_eq_zero.1 h0 with h | h
      · exact h
      · omega
    have e0 : ∀ (f : Nat → Value), Array.map f (Array.range 0) = #[] := fun f => by
      apply Array.ext'
      simp
    simp only [h0, if_true, Sem.run_bind, Sem.run_pure, Result.andThen_ok, e0]
  · simp only [h0, if_false, Sem.run_bind, h1, Sem.run_pure, Result.andThen_ok]

theorem makeMap_ok {t : Nat} (r : Option Value) (hr : r = none ∨ ∃ k n key elem, r = some (.int k n) ∧ P.underlying t = some (.map key elem)) (n : Nat) : News P E n (Instr.makeMap t r) (.map n) (.map []) := by
  refine ⟨.map (some E.w.heap.size), .map #[] 0, E.w, ?_, rfl, rfl, rfl, rfl, ?_⟩
  · rcases hr with rfl | ⟨k, m, key, elem, rfl, hu⟩
    · rfl
    · simp only [Instr.makeMap, Sem.run_bind, run_underlying hu, Result.andThen_ok, asInt, asIntOf, Sem.run_pure]
      rfl
  · rintro _ rfl hf
    refine ⟨V.newMap, #[], 0, alloc'_new _ _, rfl, fun j p en h => by simp at h⟩

/-! ### append -/
theorem slCells_ok {H : Heap} {esz m : Nat} {x : AV} {cs : List AV} {v : Value} (h : slCells H esz x = some (m, cs)) (hx : V E x v) (hs : ∀ id b o, (∃ off len, x = .sl id off len esz) → E.mu id = some (b, o) → ObRel E b o (H.get id)) :
    (Builtin.lenOf v).run P E.w = .ok m E.w ∧ cs.length = m * esz ∧ (∀ y, y ∈ cs → y.isCell = true) ∧ ∃ vs, (∀ w : World, w.heap = E.w.heap → (Builtin.firstCells esz m v).run P w = .ok vs.toArray w) ∧ VL E cs vs := by
  unfold slCells at h
  split at h <;> try (cases h; done)
  · simp only [Option.some.injEq, Prod.mk.injEq] at h
    obtain ⟨rfl, rfl⟩ := h
    cases hx
    exact ⟨rfl, by simp, by simp, [], fun _ _ => rfl, VL.nil E⟩
  · rename_i id off len e
    split at h <;> try (cases h; done)
    rename_i bx e0 cs0 hg
    dsimp only at h
    split at h <;> try (cases h; done)
    rename_i hc
    obtain ⟨rfl, hlen⟩ := hc
    simp only [Option.some.injEq, Prod.mk.injEq] at h
    obtain ⟨rfl, rfl⟩ := h
    cases hx with
    | sl _ _ off' _ cap _ b o e' n' hm hl ho hsh hroom =>
      have hob := hs id b o ⟨off, len, rfl⟩ hm
      rw [hg] at hob
      obtain ⟨c, lo, hi, hr⟩ := hob
      have hat := hr.at_.sub off (len * e)
      have hcell := hat.isCell
      refine ⟨rfl, hlen, hcell, ?_⟩
      by_cases h0 : cap = 0
      · have : len = 0 := by omega
        subst this
        exact ⟨[], fun _ _ => by simp [Builtin.firstCells, loadCells, loadCellsFrom], by simpa using VL.nil E⟩
      · have : off' = off := ho.resolve_left h0
        subst this
        obtain ⟨vs, h3, h4⟩ := run_readRowW (P := P) hat hlen
        exact ⟨vs, h3, h4⟩
  · rename_i tmp rows
    split at h <;> try (cases h; done)
    rename_i hall
    simp only [Option.some.injEq, Prod.mk.injEq] at h
    obtain ⟨rfl, rfl⟩ := h
    have hrl : ∀ r, r ∈ rows → r.length = esz := fun r hr => by simpa using (List.all_eq_true.1 hall) r hr
    have hfl : rows.flatten.length = rows.length * esz := by
      clear hx hall hs
      induction rows with
      | nil => simp
      | cons r rows ih => simp [List.flatten_cons, Nat.succ_mul, ih (fun r' h' => hrl r' (by simp [h'])), hrl r (by simp), Nat.add_comm]
    cases hx with
    | islE _ a cap =>
      refine ⟨rfl, by simp, by simp, [], fun _ _ => ?_, VL.nil E⟩
      simp [Builtin.firstCells, loadCells, loadCellsFrom]
    | isl _ _ esz' b o cap vs hi hr hc hcl hcap hcell hv =>
      have hat : At E b o rows.flatten := fun j y hj => ⟨by
        obtain ⟨r, h1, h2⟩ := List.mem_flatten.1 (List.mem_of_getElem? hj)
        exact hc r y h1 h2, vs j, hcell j y hj, hv j y hj⟩
      obtain ⟨us, h3, h4⟩ := run_readRowW (P := P) hat hfl
      exact ⟨rfl, hfl, hat.isCell, us, h3, h4⟩
  · rename_i s
    split at h <;> try (cases h; done)
    rename_i he
    subst he
    simp only [Option.some.injEq, Prod.mk.injEq] at h
    obtain ⟨rfl, rfl⟩ := h
    obtain ⟨b, rfl, hb⟩ := hx.str_inv
    have hsz : b.size = s.length := by rw [← hb, Array.length_toList]; rfl
    refine ⟨by simp only [Builtin.lenOf, hsz]; rfl, by simp, by simp [AV.isCell], s.map fun u => .int .u8 u.toNat, fun _ _ => ?_, ?_⟩
    · simp only [Builtin.firstCells, Sem.run_pure]
      congr 1
      apply Array.ext'
      rw [Array.toList_map, extract_list, hb]
      simp only [List.drop_zero, Nat.sub_zero, List.take_length]
    · refine ⟨by simp, fun j y v h1 h2 => ?_⟩
      rw [List.getElem?_map] at h1 h2
      cases hj : s[j]? with
      | none => simp [hj] at h1
      | some u => simp [hj] at h1 h2; subst h1; subst h2; exact .int _ _

theorem growBy_le {n : Nat} : ∀ (r c : Nat), 256 ≤ c → c ≤ 2 * n → Builtin.growBy n r c ≤ 2 * n
  | 0, c, _, h => h
  | r + 1, c, h1, h2 => by
    unfold Builtin.growBy
    split
    · exact h2
    · exact growBy_le r _ (by omega) (by omega)

theorem nextslicecap_le {n c : Nat} (h : c < n) : Builtin.nextslicecap n c ≤ 2 * n := by
  unfold Builtin.nextslicecap
  split
  · omega
  · split
    · omega
    · exact growBy_le 4 c (by omega) (by omega)

theorem zeroCells_size (z : Array Value) (n : Nat) : (Builtin.zeroCells z n).size = n * z.size := by simp [Builtin.zeroCells]

theorem run_choose_cap (need old : Nat) (e : TypeId) (w : World) : ∃ cap, need ≤ cap ∧ (choose (.appendCap need old e)).run P w = .ok cap { w with drawn := w.drawn + 1 } :=
  ⟨need + w.tape w.drawn (.appendCap need old e) % (2 ^ 63 - need), by omega, by simp [choose, Sem.run, Question.forced, Question.cut]⟩

theorem run_askRoom (n : Nat) (w : World) : (askRoom n).run P w = .ok () w := by
  unfold askRoom
  split <;> rfl

/-- The growing way of append. -/
theorem append_grow {t tx elem esz bytes sLen sCap m : Nat} {d : TypeDesc} {base : Option Addr} {vx : Value} {old new : List AV} {oldV newV : List Value} {z : AV} (hu : P.underlying t = some (.slice elem)) (htx : P.underlying tx = some d) (hd : ∀ k, d ≠ .int k)
    (hn : tsz P elem = some esz) (hb : tbytes P elem = some bytes) (hz : tzero P elem = some z) (hzl : z.cells.length = esz)
    (hlen : (Builtin.lenOf vx).run P E.w = .ok m E.w) (hneed : sCap < sLen + m) (hroom : 2 * (sLen + m) * bytes ≤ 2 ^ 47) (hroom2 : sLen + m ≤ 2 ^ 47)
    (hold : ∀ w : World, w.heap = E.w.heap → (Builtin.firstCells esz sLen (.slice base sLen sCap)).run P w = .ok oldV.toArray w) (hnew : ∀ w : World, w.heap = E.w.heap → (Builtin.firstCells esz m vx).run P w = .ok newV.toArray w)
    (ho : VL E old oldV) (hnw : VL E new newV) (ol : old.length = sLen * esz) (nl : new.length = m * esz) (hc1 : ∀ y, y ∈ old → y.isCell = true) (hc2 : ∀ y, y ∈ new → y.isCell = true) (n : Nat) :
    ∀ ty, News P E n (Builtin.append_ #[t, tx] ty #[.slice base sLen sCap, vx]) (.sl n 0 (sLen + m) esz) (.row false elem (old ++ new)) := by
  intro ty
  obtain ⟨cap, hcap, hch⟩ := run_choose_cap (P := P) (sLen + m) sCap elem E.w
  obtain ⟨zv, h1, h2⟩ := tzero_spec hz
  have hzs : zv.cells.size = esz := by have := (h2 E).cells.1; simp at this; omega
  have htb : ∀ w : World, ∃ i, (typeInfo elem).run P w = .ok i w ∧ i.bytes = bytes := fun w => run_tbytes hb w
  refine ⟨.slice (some ⟨E.w.heap.size, 0, none⟩) (sLen + m) cap, .cells (oldV.toArray ++ newV.toArray ++ Builtin.zeroCells zv.cells (cap - (sLen + m))) elem, { E.w with drawn := E.w.drawn + 1 }, ?_, rfl, rfl, rfl, rfl, ?_⟩
  · unfold Builtin.append_
    simp only [List.getElem?_toArray, List.getElem?_cons_zero, List.getElem?_cons_succ, Sem.run_bind, run_underlying hu, Result.andThen_ok, run_tsz hn]
    have hzeros : (match d with | .int _ => true | _ => false) = false := by
      cases d <;> first | rfl | exact absurd rfl (hd _)
    simp only [Sem.run_bind, run_underlying htx, Result.andThen_ok, Sem.run_pure, hzeros, Bool.false_eq_true, if_false, hlen]
    rw [if_neg (by omega)]
    obtain ⟨i, hi1, hi2⟩ := htb E.w
    have hnext := nextslicecap_le hneed
    have hmul : Builtin.nextslicecap (sLen + m) sCap * bytes ≤ 2 ^ 47 := Nat.le_trans (Nat.mul_le_mul_right _ hnext) hroom
    have hi64 : IntKind.i64.max = 9223372036854775807 := by decide
    have h47 : (2 : Nat) ^ 47 = 140737488355328 := by decide
    have h48 : (2 : Nat) ^ 48 = 281474976710656 := by decide
    rw [h47] at hmul hroom2
    simp only [Bool.not_false, if_true, Sem.run_bind, hi1, Result.andThen_ok, hi2, Sem.run_pure, hi64]
    rw [if_neg (by omega)]
    simp only [Sem.run_pure, Result.andThen_ok, Sem.run_bind, hi1, hi2]
    rw [if_neg (by rw [h48]; omega)]
    simp only [Sem.run_pure, Result.andThen_ok, hch, Sem.run_bind]
    obtain ⟨i', hi1', hi2'⟩ := htb { E.w with drawn := E.w.drawn + 1 }
    simp only [hi1', hi2', Result.andThen_ok, run_askRoom, hold { E.w with drawn := E.w.drawn + 1 } rfl, hnew { E.w with drawn := E.w.drawn + 1 } rfl, h1, newRow_run]
  · rintro _ rfl hf
    refine ⟨V.newSl hcap ?_, ?_⟩
    · have e1 : oldV.length = sLen * esz := by rw [← ho.1, ol]
      have e2 : newV.length = m * esz := by rw [← hnw.1, nl]
      have e3 := zeroCells_size zv.cells (cap - (sLen + m))
      rw [hzs] at e3
      simp only [Array.size_append, List.size_toArray, e1, e2, e3]
      rw [← Nat.add_mul, ← Nat.add_mul]
      apply Nat.mul_le_mul_right
      omega
    · have e1 := drew_ext (E := E) (w0 := { E.w with drawn := E.w.drawn + 1 }) n rfl rfl rfl rfl
      have := newRow_ok (E := { mu := E.mu, perm := E.perm, w := { E.w with drawn := E.w.drawn + 1 } }) (n := n) (bx := false) (e := elem) hf ((ho.append hnw).mono e1 (fresh_refl E n)) (fun y hy => by
        rcases List.mem_append.1 hy with h | h
        · exact hc1 y h
        · exact hc2 y h) (Builtin.zeroCells zv.cells (cap - (sLen + m))).toList (fun h => by cases h)
      have e4 : (oldV ++ newV ++ (Builtin.zeroCells zv.cells (cap - (sLen + m))).toList).toArray = oldV.toArray ++ newV.toArray ++ Builtin.zeroCells zv.cells (cap - (sLen + m)) := by
        apply Array.ext'; simp
      rw [e4] at this
      exact this
end Go.Ab
