/- The abstract machine: what a row's argument holds, as an abstract value with its type's shape. -/
import Derived.Test.YtajihhoaimgeaaaGreatDoorAe
import GoSem.ClaimChange
import Derived.Lib.Strings
import Derived.Test.YtajihhoaimgeaaaGreatDoorFb
set_option linter.unusedVariables false
set_option linter.unusedSimpArgs false
set_option linter.unusedSectionVars false
set_option linter.unnecessarySimpa false
namespace Go.Ab
set_option linter.unusedVariables false
set_option linter.unusedSectionVars false
variable [HasBase]

mutual
/-- Cells of a type. -/
inductive HasT (P : Program) : TypeId → List AV → Prop where
  | bool (t : TypeId) (b : Bool) : P.underlying t = some .bool → HasT P t [.bool b]
  | int (t : TypeId) (k : IntKind) (n : Int) : P.underlying t = some (.int k) → (Lit.int k n).wf = true → HasT P t [.int k n]
  | str (t : TypeId) (s : List UInt8) : P.underlying t = some .string → s.length ≤ maxLen → HasT P t [.str s]
  | nils (t e : TypeId) : P.underlying t = some (.slice e) → HasT P t [.nils]
  | isl (t e : TypeId) (rows : List (List AV)) : P.underlying t = some (.slice e) → (∀ r, r ∈ rows → HasT P e r) → (∀ r, r ∈ rows → r.length = P.cellsOf e) → rows.length ≤ maxLen → HasT P t [.isl true rows]
  | struct (t : TypeId) (fs : Array Field) (cs : List AV) : P.underlying t = some (.struct fs) → HasFs P fs.toList cs → HasT P t cs
inductive HasFs (P : Program) : List Field → List AV → Prop where
  | nil : HasFs P [] []
  | cons (f : Field) (fs : List Field) (a b : List AV) : HasT P f.type a → a.length = P.cellsOf f.type → HasFs P fs b → HasFs P (f :: fs) (a ++ b)
end

def tileB (P : Program) : List Field → Nat → Nat → Bool
  | [], o, n => Nat.beq o n
  | f :: fs, o, n => Nat.beq f.offset o && tileB P fs (o + P.cellsOf f.type) n
def okT (P : Program) (S : List TypeId) (t : TypeId) : Bool :=
  match P.underlying t with
  | some .bool | some (.int _) | some .string => true
  | some (.slice e) => S.contains e && Nat.ble 1 (P.cellsOf e)
  | some (.struct fs) => fs.toList.all (fun f => S.contains f.type) && tileB P fs.toList 0 (P.cellsOf t)
  | _ => false
def closedT (P : Program) (S : List TypeId) : Bool := S.all (okT P S)

theorem mapM_some {α β : Type} {f : α → Option β} : ∀ {l : List α} {ys : List β}, l.mapM f = some ys → ys.length = l.length ∧ ∀ (i : Nat) (x : α), l[i]? = some x → ∃ y, f x = some y ∧ ys[i]? = some y
  | [], ys, h => by
    simp at h
    subst h
    exact ⟨rfl, fun i x h => by simp at h⟩
  | a :: l, ys, h => by
    rw [List.mapM_cons] at h
    cases ha : f a with
    | none => rw [ha] at h; cases h
    | some b =>
      rw [ha] at h
      cases hl : l.mapM f with
      | none => rw [hl] at h; cases h
      | some bs =>
        rw [hl] at h
        have h : some (b :: bs) = some ys := h
        cases h
        obtain ⟨h1, h2⟩ := mapM_some hl
        refine ⟨by simp [h1], fun i x hx => ?_⟩
        cases i with
        | zero => simp at hx; subst hx; exact ⟨b, ha, rfl⟩
        | succ i => exact h2 i x (by simpa using hx)
theorem mapM_range {β : Type} {f : Nat → Option β} {n : Nat} {ys : List β} (h : (List.range n).mapM f = some ys) : ys.length = n ∧ ∀ i : Nat, i < n → ∃ y, f i = some y ∧ ys[i]? = some y := by
  obtain ⟨h1, h2⟩ := mapM_some h
  exact ⟨by simpa using h1, fun i hi => h2 i i (by simp [hi])⟩
theorem choose_list {α : Type} {p : Nat → α → Prop} : ∀ {n : Nat}, (∀ i, i < n → ∃ x, p i x) → ∃ l : List α, l.length = n ∧ ∀ i x, l[i]? = some x → p i x
  | 0, _ => ⟨[], rfl, fun i x h => by simp at h⟩
  | n + 1, h => by
    obtain ⟨l, h1, h2⟩ := choose_list (n := n) fun i hi => h i (by omega)
    obtain ⟨x, hx⟩ := h n (by omega)
    refine ⟨l ++ [x], by simp [h1], fun i y hy => ?_⟩
    rw [List.getElem?_append] at hy
    split at hy
    · exact h2 i y hy
    · rename_i hl
      have : i - l.length = 0 := by
        cases hd : i - l.length with
        | zero => rfl
        | succ k => rw [hd] at hy; simp at hy
      rw [this] at hy
      simp at hy
      subst hy
      have : i = n := by omega
      rw [this]; exact hx
theorem flat_get {α : Type} {n : Nat} : ∀ {rows : List (List α)}, (∀ r, r ∈ rows → r.length = n) → ∀ {j : Nat} {x : α}, rows.flatten[j]? = some x → ∃ i k r, j = i * n + k ∧ k < n ∧ rows[i]? = some r ∧ r[k]? = some x
  | [], _, j, x, h => by simp at h
  | r :: rows, hr, j, x, h => by
    rw [List.flatten_cons, List.getElem?_append] at h
    have hl := hr r (by simp)
    split at h
    · rename_i hj
      exact ⟨0, j, r, by simp, by omega, rfl, h⟩
    · rename_i hj
      obtain ⟨i, k, r', h1, h2, h3, h4⟩ := flat_get (fun r h => hr r (by simp [h])) h
      refine ⟨i + 1, k, r', ?_, h2, by simpa using h3, h4⟩
      rw [Nat.succ_mul]; omega

theorem cells_get {w : World} {base : Nat} {a : Addr} {n : Nat} {arr : List Value} (h : w.cells? base a n = some arr) : arr.length = n ∧ ∀ k, k < n → ∃ v, w.cell? (a.add k) = some v ∧ arr[k]? = some v := by
  unfold World.cells? at h
  split at h
  · exact mapM_range h
  · cases h
theorem cell_spot {w : World} {a : Addr} {v : Value} (h : w.cell? a = some v) : a.spot = none ∧ a.block < w.heap.size := by
  unfold World.cell? at h
  split at h
  · rename_i c e f hb
    split at h
    · cases h
    · rename_i hs
      refine ⟨by cases hx : a.spot <;> simp [hx] at hs ⊢, ?_⟩
      exact (Array.getElem?_eq_some_iff.1 hb).1
  · cases h
theorem add_add {a : Addr} (h : a.spot = none) (m k : Nat) : (a.add m).add k = ⟨a.block, a.off + (m + k), none⟩ := by
  obtain ⟨b, o, s⟩ := a
  cases h
  unfold Addr.add
  by_cases hm : m = 0 <;> by_cases hk : k = 0 <;> simp [hm, hk] <;> omega

section
variable {P : Program} {H : Type} {enc : TypeId × Value → H} {E : Env}
/-- Cells and their abstract values. -/
structure CellsOK (E : Env) (avs : List AV) (cs : List Value) : Prop where
  vl : VL E avs cs
  cell : ∀ x, x ∈ avs → x.isCell = true
  cl : ∀ x, x ∈ avs → Cl true x
theorem CellsOK.nil : CellsOK E [] [] := ⟨VL.nil E, by simp, by simp⟩
theorem CellsOK.one {x : AV} {v : Value} (h : V E x v) (hc : x.isCell = true) (hl : Cl true x) : CellsOK E [x] [v] :=
  ⟨.cons h (.nil E), by simpa using hc, by simpa using hl⟩
theorem CellsOK.append {xs ys : List AV} {vs us : List Value} (h : CellsOK E xs vs) (k : CellsOK E ys us) : CellsOK E (xs ++ ys) (vs ++ us) :=
  ⟨h.vl.append k.vl, fun x hx => (List.mem_append.1 hx).elim (h.cell x) (k.cell x), fun x hx => (List.mem_append.1 hx).elim (h.cl x) (k.cl x)⟩

/-- A slice's elements. -/
theorem open_rows (hmu : ∀ id, E.mu id = none) {t e : TypeId} (hu : P.underlying t = some (.slice e)) (hn : 1 ≤ P.cellsOf e) {f : List Value → Option (DataW H × List MemPlace)}
    (ih : ∀ c y, f c = some y → ∃ avs, CellsOK E avs c ∧ HasT P e avs) {a : Addr} {len cap : Nat} {ys : List (DataW H × List MemPlace)} (hl : len ≤ cap ∧ cap ≤ maxLen)
    (h : (List.range len).mapM (fun i => (E.w.cells? 0 (a.add (i * P.cellsOf e)) (P.cellsOf e)).bind f) = some ys) : ∃ avs, CellsOK E avs [Value.slice (some a) len cap] ∧ HasT P t avs := by
  obtain ⟨_, h2⟩ := mapM_range h
  obtain ⟨rows, hr1, hr2⟩ := choose_list (n := len) (p := fun i (r : List AV) => ∃ arr, E.w.cells? 0 (a.add (i * P.cellsOf e)) (P.cellsOf e) = some arr ∧ CellsOK E r arr ∧ HasT P e r) (fun i hi => by
    obtain ⟨y, h3, _⟩ := h2 i hi
    cases hc : E.w.cells? 0 (a.add (i * P.cellsOf e)) (P.cellsOf e) with
    | none => rw [hc] at h3; cases h3
    | some arr =>
      rw [hc] at h3
      obtain ⟨avs, h4, h5⟩ := ih arr y h3
      exact ⟨avs, arr, rfl, h4, h5⟩)
  have hmem : ∀ r, r ∈ rows → ∃ i arr, E.w.cells? 0 (a.add (i * P.cellsOf e)) (P.cellsOf e) = some arr ∧ CellsOK E r arr ∧ HasT P e r := fun r hr => by
    obtain ⟨i, hi⟩ := List.getElem?_of_mem hr
    obtain ⟨arr, h3⟩ := hr2 i r hi
    exact ⟨i, arr, h3⟩
  have hlen : ∀ r, r ∈ rows → r.length = P.cellsOf e := fun r hr => by
    obtain ⟨i, arr, h3, h4, h5⟩ := hmem r hr
    rw [h4.vl.1]; exact (cells_get h3).1
  have hcell : ∀ r x, r ∈ rows → x ∈ r → x.isCell = true := fun r x hr hx => by
    obtain ⟨i, arr, h3, h4, h5⟩ := hmem r hr
    exact h4.cell x hx
  have hcl : ∀ r x, r ∈ rows → x ∈ r → Cl true x := fun r x hr hx => by
    obtain ⟨i, arr, h3, h4, h5⟩ := hmem r hr
    exact h4.cl x hx
  have hT : HasT P t [.isl true rows] := .isl t e rows hu (fun r hr => by obtain ⟨i, arr, h3, h4, h5⟩ := hmem r hr; exact h5) hlen (by omega)
  refine ⟨[.isl true rows], CellsOK.one ?_ rfl (.isl _ _ _ (fun h => h) hcl), hT⟩
  rw [← hr1]
  cases rows with
  | nil => exact .islE _ _ _
  | cons r0 rest =>
    obtain ⟨arr0, g1, g2, _⟩ := hr2 0 r0 rfl
    obtain ⟨_, g3⟩ := cells_get g1
    obtain ⟨v0, g4, _⟩ := g3 0 (by omega)
    rw [Nat.zero_mul] at g4
    have ha : a.add 0 = a := by simp [Addr.add]
    rw [ha, ha] at g4
    obtain ⟨hs, hb⟩ := cell_spot g4
    have key : ∀ j x, (r0 :: rest).flatten[j]? = some x → ∃ v, E.w.cell? ⟨a.block, a.off + j, none⟩ = some v ∧ V E x v := fun j x hj => by
      obtain ⟨i, k, r, e1, e2, e3, e4⟩ := flat_get hlen hj
      obtain ⟨arr, g5, g6, _⟩ := hr2 i r e3
      obtain ⟨_, g7⟩ := cells_get g5
      obtain ⟨v, g8, g9⟩ := g7 k e2
      rw [add_add hs, ← e1] at g8
      exact ⟨v, g8, g6.vl.2 k x v e4 g9⟩
    have := V.isl (E := E) true (r0 :: rest) (P.cellsOf e) a.block a.off cap (fun j => (E.w.cell? ⟨a.block, a.off + j, none⟩).getD undef) ⟨hb, (fun ⟨id, o, hm⟩ => by rw [hmu] at hm; cases hm), (fun h => by cases h)⟩ hlen hcell hcl (by omega)
      (fun j x hj => by obtain ⟨v, g1, g2⟩ := key j x hj; rw [g1]; rfl) (fun j x hj => by obtain ⟨v, g1, g2⟩ := key j x hj; rw [g1]; exact g2)
    obtain ⟨b, o, sp⟩ := a
    cases hs
    exact this
/-- A struct's fields. -/
theorem open_fields {f : TypeId → List Value → Option (DataW H × List MemPlace)} {cs : List Value} {n : Nat} (hn : cs.length = n) :
    ∀ (fs : List Field) (o : Nat) (ys : List (DataW H × List MemPlace)), (∀ fd c y, fd ∈ fs → f fd.type c = some y → ∃ avs, CellsOK E avs c ∧ HasT P fd.type avs) → tileB P fs o n = true → o ≤ n →
      fs.mapM (fun fd => f fd.type (List.take (P.cellsOf fd.type) (List.drop fd.offset cs))) = some ys → ∃ avs, CellsOK E avs (cs.drop o) ∧ HasFs P fs avs
  | [], o, ys, _, ht, ho, h => by
    have : o = n := Nat.eq_of_beq_eq_true ht
    rw [List.drop_eq_nil_of_le (by omega)]
    exact ⟨[], CellsOK.nil, .nil⟩
  | fd :: fs, o, ys, ih, ht, ho, h => by
    simp only [tileB, Bool.and_eq_true] at ht
    have hoff : fd.offset = o := Nat.eq_of_beq_eq_true ht.1
    rw [List.mapM_cons] at h
    cases h1 : f fd.type (List.take (P.cellsOf fd.type) (List.drop fd.offset cs)) with
    | none => rw [h1] at h; cases h
    | some y =>
      rw [h1] at h
      cases h2 : fs.mapM (fun fd => f fd.type (List.take (P.cellsOf fd.type) (List.drop fd.offset cs))) with
      | none => rw [h2] at h; cases h
      | some ys' =>
        obtain ⟨a, g1, g2⟩ := ih fd _ y (by simp) h1
        rw [hoff] at g1
        have hle : o + P.cellsOf fd.type ≤ n := tile_le ht.2
        obtain ⟨b, g3, g4⟩ := open_fields hn fs (o + P.cellsOf fd.type) ys' (fun fd c y hm => ih fd c y (by simp [hm])) ht.2 hle h2
        have hal : a.length = P.cellsOf fd.type := by
          rw [g1.vl.1, List.length_take, List.length_drop]; omega
        refine ⟨a ++ b, ?_, .cons fd fs a b g2 hal g4⟩
        have := g1.append g3
        rw [← List.drop_drop, List.take_append_drop] at this
        exact this
where
  tile_le : ∀ {fs : List Field} {o n : Nat}, tileB P fs o n = true → o ≤ n
    | [], o, n, h => by rw [Nat.eq_of_beq_eq_true h]; exact Nat.le_refl _
    | fd :: fs, o, n, h => by
      simp only [tileB, Bool.and_eq_true] at h
      have := tile_le h.2
      omega

theorem open_cells (hmu : ∀ id, E.mu id = none) {spare : Nat → Bool} {held : Bool} {S : List TypeId} (hS : closedT P S = true) :
    ∀ (fuel : Nat) (t : TypeId) (cs : List Value) (d : DataW H) (ps : List MemPlace), t ∈ S → DataW.trod enc P E.w 0 spare held fuel t cs = some (d, ps) → ∃ avs, CellsOK E avs cs ∧ HasT P t avs
  | 0, _, _, _, _, _, h => by simp [DataW.trod] at h
  | fuel + 1, t, cs, d, ps, ht, h => by
    have ih := open_cells hmu (spare := spare) (held := held) hS fuel
    have hok : okT P S t = true := by
      unfold closedT at hS
      rw [List.all_eq_true] at hS
      exact hS t ht
    unfold okT at hok
    unfold DataW.trod at h
    cases hu : P.underlying t with
    | none => rw [hu] at hok; cases hok
    | some D =>
      rw [hu] at hok h
      cases D with
      | bool =>
        dsimp only at h
        split at h <;> (try simp_all) <;> try (cases h; done)
        · exact ⟨_, CellsOK.one (.bool _) rfl (.bool _ _), .bool t _ hu⟩
      | int k =>
        dsimp only at h
        split at h <;> (try simp_all) <;> try (cases h; done)
        · obtain ⟨⟨rfl, hwf⟩, _⟩ := h
          exact ⟨_, CellsOK.one (.int _ _) rfl (.int _ _ _), .int t _ _ hu (by assumption)⟩
      | string =>
        dsimp only at h
        split at h <;> (try simp_all) <;> try (cases h; done)
        · rename_i s
          exact ⟨_, CellsOK.one (.str _ _ rfl) rfl (.str _ _), .str t _ hu (by rw [← Lib.size_eq]; exact h.1)⟩
      | slice e =>
        dsimp only at h hok
        rw [Bool.and_eq_true] at hok
        have heS : e ∈ S := by simpa using hok.1
        have hn : 1 ≤ P.cellsOf e := Nat.le_of_ble_eq_true hok.2
        split at h <;> (try simp_all) <;> try (cases h; done)
        · rename_i elem' _ _
          exact ⟨_, CellsOK.one .nils rfl (.nils _), .nils t _ hu⟩
        · obtain ⟨hlc, h⟩ := h
          cases hm : List.mapM (fun i => (E.w.cells? 0 (_ : Addr) _).bind _) (List.range _) with
          | none => rw [hm] at h; cases h
          | some ys => exact open_rows hmu hu hn (fun c y hy => ih _ c y.1 y.2 heS hy) hlc hm
      | struct fs =>
        dsimp only at h hok
        rw [Bool.and_eq_true, List.all_eq_true] at hok
        have hfS : ∀ f, f ∈ fs.toList → f.type ∈ S := fun f hf => by simpa using hok.1 f hf
        split at h <;> (try simp_all) <;> try (cases h; done)
        · obtain ⟨ys, hm, _⟩ := h
          obtain ⟨avs, g1, g2⟩ := open_fields (P := P) (E := E) (f := fun t c => DataW.trod enc P E.w 0 spare held fuel t c) (by assumption) fs.toList 0 ys (fun fd c y hf hy => ih fd.type c y.1 y.2 (hfS fd (by simpa using hf)) hy) hok (Nat.zero_le _) hm
          exact ⟨avs, by simpa using g1, .struct t fs avs hu g2⟩
      | _ => cases hok
end
end Go.Ab

/- The abstract machine: running code with unknown data, slots as a function. -/
namespace Go.Ab
set_option linter.unusedVariables false
set_option linter.unusedSectionVars false
variable [HasBase]

abbrev Slots := Nat → AV
def updG (g : Slots) (d : Nat) (v : AV) : Slots := fun i => bif Nat.beq i d then v else g i
def putG (g : Slots) (d : Option Tmp) (v : AV) : Slots :=
  match d with
  | some d => updG g d v
  | none => g
/-- An operation with its guard's slot. -/
structure SOp where
  dst : Option Tmp
  op : Op
  guard : Option (Tmp × Bool)
def guardOf (ops : Array Oper) (o : Oper) : Option (Option (Tmp × Bool)) :=
  match o.guard with
  | none => some none
  | some (j, w) => match (ops[j]?).bind (·.dst) with
    | some d => some (some (d, w))
    | none => none
def liteO (n : Nat) (ops : Array Oper) (o : Oper) : Option SOp :=
  match guardOf ops o, (match o.dst with | some d => Nat.blt d n | none => true) with
  | some g, true => some ⟨o.dst, o.op, g⟩
  | _, _ => none
def lite (n : Nat) (ops : Array Oper) : Option (List SOp) := mapO (liteO n ops) ops.toList

def wantedG (o : SOp) (g : Slots) : Bool :=
  match o.guard with
  | none => true
  | some (d, w) => match g d with
    | .bool b => b == w
    | _ => false

inductive GR where
  | go (g : Slots) (H : Heap)
  | pan (v : AV) (H : Heap)
section
variable (P : Program)
noncomputable def stepG (call : CallFn) (o : SOp) (g : Slots) (H : Heap) : Option GR :=
  match wantedG o g with
  | true => match F.opE P o.op g H with
    | some (.val v H') => some (.go (putG g o.dst v) H')
    | some (.pan v) => some (.pan v H)
    | some (.call f args) => match call f args H with
      | some (.ret v, H') => some (.go (putG g o.dst v) H')
      | some (.pan v, H') => some (.pan v H')
      | none => none
    | none => none
  | false => some (.go (putG g o.dst .undef) H)
noncomputable def runG (call : CallFn) : List SOp → Slots → Heap → Option GR
  | [], g, H => some (.go g H)
  | o :: os, g, H => match stepG P call o g H with
    | some (.go g H) => runG call os g H
    | r => r
end
variable {P : Program}
theorem rl_put {tm : List AV} {d : Option Tmp} {n : Nat} (hl : tm.length = n) (hd : (match d with | some d => Nat.blt d n | none => true) = true) (v : AV) : F.rl (putA tm d v) = putG (F.rl tm) d v ∧ (putA tm d v).length = n := by
  cases d with
  | none => exact ⟨rfl, hl⟩
  | some d =>
    have hd : d < n := by exact Nat.le_of_ble_eq_true hd
    refine ⟨?_, by simp [putA, hl]⟩
    funext i
    show (tm.set d v).getD i .undef = bif Nat.beq i d then v else tm.getD i .undef
    rw [List.getD_eq_getElem?_getD, List.getD_eq_getElem?_getD, List.getElem?_set]
    by_cases h : d = i
    · subst h
      have : Nat.beq d d = true := Nat.beq_refl d
      simp [hl, hd]
    · have : Nat.beq i d = false := by
        cases hb : Nat.beq i d with
        | true => exact absurd (Nat.eq_of_beq_eq_true hb).symm h
        | false => rfl
      simp only [h, if_false, this, cond_false]
theorem wantedG_eq {ops : Array Oper} {o : Oper} {s : SOp} {n : Nat} (h : liteO n ops o = some s) (tm : List AV) : wantedG s (F.rl tm) = wantedA ops o tm ∧ s.op = o.op ∧ s.dst = o.dst ∧ (match o.dst with | some d => Nat.blt d n | none => true) = true := by
  unfold liteO at h
  split at h
  · rename_i g hg hd
    cases h
    refine ⟨?_, rfl, rfl, hd⟩
    unfold guardOf at hg
    unfold wantedG wantedA
    cases ho : o.guard with
    | none => rw [ho] at hg; cases hg; rfl
    | some p =>
      obtain ⟨j, w⟩ := p
      rw [ho] at hg
      dsimp only at hg ⊢
      cases hj : (ops[j]?).bind (·.dst) with
      | none => rw [hj] at hg; cases hg
      | some d =>
        rw [hj] at hg
        cases hg
        dsimp only
        show (match tm.getD d .undef with | .bool b => b == w | _ => false) = _
        rw [List.getD_eq_getElem?_getD]
        cases tm[d]? with
        | none => rfl
        | some v => cases v <;> rfl
  · cases h
theorem runG_ok {call : CallFn} {ops : Array Oper} {n : Nat} : ∀ (l : List Oper) (L : List SOp) (tm : List AV) (H : Heap), mapO (liteO n ops) l = some L → tm.length = n →
    match runG P call L (F.rl tm) H with
    | some (.go g H') => ∃ tm', runOps P call ops l tm H = some (.go tm' H') ∧ tm'.length = n ∧ F.rl tm' = g
    | some (.pan v H') => runOps P call ops l tm H = some (.pan v H')
    | none => True
  | [], L, tm, H, hL, hn => by
    cases hL
    exact ⟨tm, rfl, hn, rfl⟩
  | o :: l, L, tm, H, hL, hn => by
    simp only [mapO] at hL
    cases ho : liteO n ops o with
    | none => rw [ho] at hL; cases hL
    | some s =>
      rw [ho] at hL
      cases hl : mapO (liteO n ops) l with
      | none => rw [hl] at hL; cases hL
      | some L' =>
        rw [hl] at hL
        cases hL
        obtain ⟨h1, h2, h3, h4⟩ := wantedG_eq ho tm
        have step : stepG P call s (F.rl tm) H = match stepA P call ops o tm H with | some (.go tm' H') => some (.go (F.rl tm') H') | some (.pan v H') => some (.pan v H') | none => none := by
          unfold stepG stepA
          rw [h1, h2, h3, F.opE_eq]
          cases wantedA ops o tm with
          | false => dsimp only; rw [(rl_put hn h4 _).1]
          | true =>
            dsimp only
            cases opA P o tm H with
            | none => rfl
            | some r =>
              cases r with
              | val v H' => dsimp only; rw [(rl_put hn h4 _).1]
              | pan v => rfl
              | call f args =>
                dsimp only
                cases call f args H with
                | none => rfl
                | some p =>
                  obtain ⟨c, H'⟩ := p
                  cases c with
                  | ret v => dsimp only; rw [(rl_put hn h4 _).1]
                  | pan v => rfl
        have len : ∀ tm' H', stepA P call ops o tm H = some (.go tm' H') → tm'.length = n := fun tm' H' h => by
          unfold stepA at h
          cases hw : wantedA ops o tm with
          | false => rw [hw] at h; cases h; exact (rl_put hn h4 _).2
          | true =>
            rw [hw] at h
            dsimp only at h
            cases hop : opA P o tm H with
            | none => rw [hop] at h; cases h
            | some r =>
              rw [hop] at h
              cases r with
              | val v H' => cases h; exact (rl_put hn h4 _).2
              | pan v => cases h
              | call f args =>
                dsimp only at h
                cases hc : call f args H with
                | none => rw [hc] at h; cases h
                | some p =>
                  rw [hc] at h
                  obtain ⟨c, H'⟩ := p
                  cases c with
                  | ret v => cases h; exact (rl_put hn h4 _).2
                  | pan v => cases h
        simp only [runG, runOps, step]
        cases hs : stepA P call ops o tm H with
        | none => trivial
        | some r =>
          cases r with
          | pan v H' => rfl
          | go tm' H' => exact runG_ok l L' tm' H' hl (len tm' H' hs)

section
variable {call : CallFn} {g : Slots} {H H' : Heap} {os : List SOp} {K : Slots → Heap → Prop} {KP : AV → Heap → Prop} {d : Nat} {v : AV}
def OG (P : Program) (call : CallFn) (l : List SOp) (g : Slots) (H : Heap) (K : Slots → Heap → Prop) (KP : AV → Heap → Prop) : Prop :=
  (∃ g' H', runG P call l g H = some (.go g' H') ∧ K g' H') ∨ (∃ p H', runG P call l g H = some (.pan p H') ∧ KP p H')
theorem og_nil (h : K g H) : OG P call [] g H K KP := .inl ⟨g, H, rfl, h⟩
theorem og_val {o : SOp} (h1 : wantedG o g = true) (h2 : F.opE P o.op g H = some (.val v H')) (h3 : OG P call os (putG g o.dst v) H' K KP) : OG P call (o :: os) g H K KP := by
  have e : runG P call (o :: os) g H = runG P call os (putG g o.dst v) H' := by simp only [runG, stepG, h1, h2]
  unfold OG at h3 ⊢
  rw [e]; exact h3
theorem og_skip {D : Option Tmp} {op : Op} {j : Nat} {w : Bool} (h1 : g j = .bool (!w)) (h3 : OG P call os (putG g D .undef) H K KP) : OG P call (⟨D, op, some (j, w)⟩ :: os) g H K KP := by
  have hw : wantedG ⟨D, op, some (j, w)⟩ g = false := by simp [wantedG, h1]
  have e : runG P call (⟨D, op, some (j, w)⟩ :: os) g H = runG P call os (putG g D .undef) H := by simp only [runG, stepG, hw]
  unfold OG at h3 ⊢
  rw [e]; exact h3
theorem og_want {D : Option Tmp} {op : Op} {j : Nat} {w : Bool} (h1 : g j = .bool w) (h3 : OG P call (⟨D, op, none⟩ :: os) g H K KP) : OG P call (⟨D, op, some (j, w)⟩ :: os) g H K KP := by
  have e : runG P call (⟨D, op, some (j, w)⟩ :: os) g H = runG P call (⟨D, op, none⟩ :: os) g H := by simp [runG, stepG, wantedG, h1]
  unfold OG at h3 ⊢
  rw [e]; exact h3
theorem og_call {o : SOp} {f : FuncId} {args : List AV} (h1 : wantedG o g = true) (h2 : F.opE P o.op g H = some (.call f args)) (h4 : call f args H = some (.ret v, H')) (h3 : OG P call os (putG g o.dst v) H' K KP) : OG P call (o :: os) g H K KP := by
  have e : runG P call (o :: os) g H = runG P call os (putG g o.dst v) H' := by simp only [runG, stepG, h1, h2, h4]
  unfold OG at h3 ⊢
  rw [e]; exact h3
theorem OG.mono {K' : Slots → Heap → Prop} {l : List SOp} (h : OG P call l g H K KP) (hk : ∀ g H, K g H → K' g H) : OG P call l g H K' KP := by
  rcases h with ⟨g', H', h1, h2⟩ | h
  · exact .inl ⟨g', H', h1, hk _ _ h2⟩
  · exact .inr h

/-! operations without a guard -/
theorem x_move {x : Operand} (hx : F.evF g x = some v) (k : OG P call os (updG g d v) H K KP) : OG P call (⟨some d, .move x, none⟩ :: os) g H K KP :=
  og_val rfl (by show pureR H (F.evF g x) = _; rw [hx]; rfl) k
theorem x_assign {x : Operand} (hx : F.evF g x = some v) (k : OG P call os (updG g d v) H K KP) : OG P call (⟨some d, .assign x, none⟩ :: os) g H K KP :=
  og_val rfl (by show pureR H (F.evF g x) = _; rw [hx]; rfl) k
theorem x_pickT {c a b : Operand} (hc : F.evF g c = some (.bool true)) (hx : F.evF g a = some v) (k : OG P call os (updG g d v) H K KP) : OG P call (⟨some d, .pick c a b, none⟩ :: os) g H K KP :=
  og_val rfl (by simp only [F.opE, hc, hx, pureR]) k
theorem x_pickF {c a b : Operand} (hc : F.evF g c = some (.bool false)) (hx : F.evF g b = some v) (k : OG P call os (updG g d v) H K KP) : OG P call (⟨some d, .pick c a b, none⟩ :: os) g H K KP :=
  og_val rfl (by simp only [F.opE, hc, hx, pureR]) k
theorem x_bin {op : BinOp} {t u : TypeId} {x y : Operand} {a b : AV} (hx : F.evF g x = some a) (hy : F.evF g y = some b) (h : binA P op t x y a b = some v) (k : OG P call os (updG g d v) H K KP) : OG P call (⟨some d, .binOp op t x y u, none⟩ :: os) g H K KP :=
  og_val rfl (by simp only [F.opE, hx, hy, h, pureR]) k
theorem x_un {op : UnOp} {t : TypeId} {x : Operand} {a : AV} (hx : F.evF g x = some a) (h : unA op a = some v) (k : OG P call os (updG g d v) H K KP) : OG P call (⟨some d, .unOp op t x, none⟩ :: os) g H K KP :=
  og_val rfl (by simp only [F.opE, hx, h, pureR]) k
theorem x_fieldAddr {s : TypeId} {x : Operand} {f : Nat} {id off o : Nat} (hx : F.evF g x = some (.ptr id off)) (ho : F.fOff P s f = some o) (k : OG P call os (updG g d (.ptr id (off + o))) H K KP) : OG P call (⟨some d, .fieldAddr s x f, none⟩ :: os) g H K KP := by
  refine og_val rfl ?_ k
  have e := F.xFieldAddr_eq P s x f
  show (match F.evF g x with | some a => pureR H (fieldAddrA P s a f) | none => none) = _
  rw [hx]
  unfold F.fOff at ho
  simp only [fieldAddrA]
  split at ho <;> try (cases ho; done)
  rename_i fields hu
  split at ho <;> try (cases ho; done)
  rename_i fd hf
  split at ho <;> try (cases ho; done)
  rename_i n hn
  split at ho <;> try (cases ho; done)
  rename_i hz
  cases ho
  simp only [hu, hf, hn, if_neg hz, pureR]
theorem x_fieldAddrE {s : TypeId} {x : Operand} {f : Nat} {tmp : Bool} {cs : List AV} {off o : Nat} (hx : F.evF g x = some (.eptr tmp cs off)) (ho : F.fOff P s f = some o) (k : OG P call os (updG g d (.eptr tmp cs (off + o))) H K KP) : OG P call (⟨some d, .fieldAddr s x f, none⟩ :: os) g H K KP := by
  refine og_val rfl ?_ k
  show (match F.evF g x with | some a => pureR H (fieldAddrA P s a f) | none => none) = _
  rw [hx]
  unfold F.fOff at ho
  simp only [fieldAddrA]
  split at ho <;> try (cases ho; done)
  rename_i fields hu
  split at ho <;> try (cases ho; done)
  rename_i fd hf
  split at ho <;> try (cases ho; done)
  rename_i n hn
  split at ho <;> try (cases ho; done)
  rename_i hz
  cases ho
  simp only [hu, hf, hn, if_neg hz, pureR]
/-- A load of one cell. -/
theorem x_load1 {t : TypeId} {a : Operand} {id off : Nat} {bx : Bool} {e : TypeId} {cs : List AV} (hx : F.evF g a = some (.ptr id off)) (hg : tagg P t = some false) (hH : H.get id = .row bx e cs) (hc : cs[off]? = some v) (k : OG P call os (updG g d v) H K KP) : OG P call (⟨some d, .load t a, none⟩ :: os) g H K KP := by
  refine og_val rfl ?_ k
  show (match F.evF g a with | some a => pureR H (loadA P H t a) | none => none) = _
  rw [hx]
  simp only [loadA, loadN, hg, rd, hH]
  exact congrArg (pureR H) ((F.take1 cs off).trans hc)
theorem x_load1E {t : TypeId} {a : Operand} {tmp : Bool} {off : Nat} {cs : List AV} (hx : F.evF g a = some (.eptr tmp cs off)) (hg : tagg P t = some false) (hc : cs[off]? = some v) (k : OG P call os (updG g d v) H K KP) : OG P call (⟨some d, .load t a, none⟩ :: os) g H K KP := by
  refine og_val rfl ?_ k
  show (match F.evF g a with | some a => pureR H (loadA P H t a) | none => none) = _
  rw [hx]
  simp only [loadA, loadN, hg, rd]
  exact congrArg (pureR H) ((F.take1 cs off).trans hc)
/-- A load of a whole struct. -/
theorem x_loadN {t : TypeId} {a : Operand} {id off n : Nat} {bx : Bool} {e : TypeId} {cs r : List AV} (hx : F.evF g a = some (.ptr id off)) (hg : tagg P t = some true) (hn : tsz P t = some n) (hH : H.get id = .row bx e cs) (hr : (cs.drop off).take n = r) (hl : r.length = n) (k : OG P call os (updG g d (.agg r)) H K KP) : OG P call (⟨some d, .load t a, none⟩ :: os) g H K KP := by
  refine og_val rfl ?_ k
  show (match F.evF g a with | some a => pureR H (loadA P H t a) | none => none) = _
  rw [hx]
  simp only [loadA, loadN, hg, hn, rd, hH, hr, hl, if_true, pureR]
theorem x_loadNE {t : TypeId} {a : Operand} {tmp : Bool} {off n : Nat} {cs r : List AV} (hx : F.evF g a = some (.eptr tmp cs off)) (hg : tagg P t = some true) (hn : tsz P t = some n) (hr : (cs.drop off).take n = r) (hl : r.length = n) (k : OG P call os (updG g d (.agg r)) H K KP) : OG P call (⟨some d, .load t a, none⟩ :: os) g H K KP := by
  refine og_val rfl ?_ k
  show (match F.evF g a with | some a => pureR H (loadA P H t a) | none => none) = _
  rw [hx]
  simp only [loadA, loadN, hg, hn, rd, hr, hl, if_true, pureR]
theorem x_box {t : TypeId} {x : Operand} {cs : List AV} (hx : F.evF g x = some v) (hc : v.cells = cs) (ha : cs.all AV.isCell = true) (k : OG P call os (updG g d (.ptr H.n 0)) (H.push (.row true t cs)) K KP) : OG P call (⟨some d, .box t x, none⟩ :: os) g H K KP := by
  refine og_val rfl ?_ k
  show (match F.evF g x with | some v => if v.cells.all AV.isCell = true then some (OR.val (.ptr H.n 0) (H.push (.row true t v.cells))) else none | none => none) = _
  rw [hx]
  simp only [hc, ha, if_true]
theorem x_alloc {t : TypeId} {cs : List AV} (ha : F.alc P t = some cs) (k : OG P call os (updG g d (.ptr H.n 0)) (H.push (.row true t cs)) K KP) : OG P call (⟨some d, .alloc t, none⟩ :: os) g H K KP := by
  refine og_val rfl ?_ k
  show (match tzero P t with | some z => if z.cells.all AV.isCell = true then some (OR.val (.ptr H.n 0) (H.push (.row true t z.cells))) else none | none => none) = _
  unfold F.alc at ha
  split at ha <;> try (cases ha; done)
  rename_i z hz
  split at ha <;> try (cases ha; done)
  rename_i hc
  cases ha
  simp only [hz, hc, if_true]
theorem x_store {t : TypeId} {a x : Operand} {id off n : Nat} {bx : Bool} {e : TypeId} {cs new : List AV} (hx : F.evF g a = some (.ptr id off)) (hv : F.evF g x = some v) (hn : tsz P t = some n) (hH : H.get id = .row bx e cs) (hc : v.cells = new) (hl : new.length = n) (ha : new.all AV.isCell = true) (hf : off + n ≤ cs.length) (hz : 0 < n)
    (k : OG P call os g (H.set id (.row bx e (cs.take off ++ new ++ cs.drop (off + n)))) K KP) : OG P call (⟨none, .store t a x, none⟩ :: os) g H K KP := by
  refine og_val (v := .undef) (H' := H.set id (.row bx e (cs.take off ++ new ++ cs.drop (off + n)))) rfl ?_ k
  show (match F.evF g a, F.evF g x with | some a, some x => heapR (storeA P H t a x) | _, _ => none) = _
  rw [hx, hv]
  simp only [storeA, hn, hH, hc]
  rw [if_pos ⟨hl, ha, hf, hz⟩]; rfl
theorem x_len {args : Array Operand} {tys : Array TypeId} {a : List AV} {t : TypeId} {x : AV} {xs : List AV} (hx : F.evsF g args.toList = some a) (ha : a = x :: xs) (ht : tys[0]? = some t) (h : lenA P H t x = some v) (k : OG P call os (updG g d v) H K KP) : OG P call (⟨some d, .call ⟨.builtin .len, args, tys⟩, none⟩ :: os) g H K KP := by
  refine og_val rfl ?_ k
  show (match F.evsF g args.toList with | some args => builtinA P H .len tys args | none => none) = _
  rw [hx, ha]
  simp only [builtinA, ht, h, pureR]
theorem x_call {c : Operand} {args : Array Operand} {tys : Array TypeId} {a : List AV} {f : FuncId} {cap : List AV} (hx : F.evsF g args.toList = some a) (hf : F.evF g c = some (.fn f cap)) (hc : call f (a ++ cap) H = some (.ret v, H')) (k : OG P call os (updG g d v) H' K KP) : OG P call (⟨some d, .call ⟨.value c, args, tys⟩, none⟩ :: os) g H K KP := by
  refine og_call (f := f) (args := a ++ cap) rfl ?_ hc k
  show (match F.evsF g args.toList with | some args => (match F.evF g c with | some (.fn f cap) => some (OR.call f (args ++ cap)) | _ => none) | none => none) = _
  rw [hx, hf]
theorem x_indexAddrI {t : TypeId} {x i : Operand} {tmp : Bool} {rows : List (List AV)} {r : List AV} {kd : IntKind} {n esz : Nat} (hx : F.evF g x = some (.isl tmp rows)) (hi : F.evF g i = some (.int kd (n : Nat))) (hs : F.ixSl P t = some esz) (hr : rows[n]? = some r) (hl : r.length = esz) (k : OG P call os (updG g d (.eptr tmp r 0)) H K KP) : OG P call (⟨some d, .indexAddr t x i, none⟩ :: os) g H K KP := by
  refine og_val rfl ?_ k
  show (match F.evF g x, F.evF g i with | some a, some b => pureR H (indexAddrA P t a b) | _, _ => none) = _
  rw [hx, hi]
  unfold F.ixSl at hs
  split at hs <;> try (cases hs; done)
  rename_i e he
  have h0 : (0 : Int) ≤ (n : Int) := by omega
  simp only [indexAddrA, he, hs, if_pos h0, Int.toNat_natCast, hr, hl, if_true, pureR]
theorem x_extract {x : Operand} {i : Nat} {vs : List AV} (hx : F.evF g x = some (.tup vs)) (hv : vs[i]? = some v) (k : OG P call os (updG g d v) H K KP) : OG P call (⟨some d, .extract x i, none⟩ :: os) g H K KP := by
  refine og_val rfl ?_ k
  show (match F.evF g x with | some (.tup vs) => (match vs[i]? with | some v => some (OR.val v H) | none => none) | _ => none) = _
  rw [hx]
  simp only [hv]
theorem x_fn {f : FuncId} {caps : Array Operand} {vs : List AV} (hx : F.evsF g caps.toList = some vs) (k : OG P call os (updG g d (.fn f vs)) H K KP) : OG P call (⟨some d, .makeFunc (.func f) #[] caps, none⟩ :: os) g H K KP := by
  refine og_val rfl ?_ k
  show (if (#[] : Array Operand).size = 0 then (match F.evsF g caps.toList with | some vs => some (OR.val (.fn f vs) H) | none => none) else none) = _
  rw [hx]; rfl
theorem x_build {t : TypeId} {ps : Array (Nat × Operand)} {vs : List (Nat × AV)} (hx : F.evPartsF g ps.toList = some vs) (h : buildA P t vs = some v) (k : OG P call os (updG g d v) H K KP) : OG P call (⟨some d, .build t ps, none⟩ :: os) g H K KP := by
  refine og_val rfl ?_ k
  show (match F.evPartsF g ps.toList with | some ps => pureR H (buildA P t ps) | none => none) = _
  rw [hx]
  simp only [h, pureR]
end

/-! code -/
section
variable {call : CallFn} {N n : Nat} {g : Slots} {H : Heap} {Q : AX → Slots → Heap → Prop}
def RG (P : Program) (call : CallFn) (N n : Nat) (c : Code) (g : Slots) (H : Heap) (Q : AX → Slots → Heap → Prop) : Prop :=
  ∀ tm : List AV, tm.length = N → F.rl tm = g → Run P call n c tm H (fun ax tm' H' => tm'.length = N ∧ Q ax (F.rl tm') H')
theorem run_mono {c : Code} {tm : List AV} {Q Q' : AX → List AV → Heap → Prop} (h : Run P call n c tm H Q) (hq : ∀ ax tm H, Q ax tm H → Q' ax tm H) : Run P call n c tm H Q' := by
  unfold Run at h ⊢
  obtain ⟨ax, tm', H', h1, h2⟩ := h
  exact ⟨ax, tm', H', h1, hq _ _ _ h2⟩
theorem RG.mono {c : Code} {Q' : AX → Slots → Heap → Prop} (h : RG P call N n c g H Q) (hq : ∀ ax g H, Q ax g H → Q' ax g H) : RG P call N n c g H Q' :=
  fun tm h1 h2 => run_mono (h tm h1 h2) fun ax tm H h => ⟨h.1, hq _ _ _ h.2⟩
theorem rg_region {id : Nat} {ops : Array Oper} {L : List SOp} (hL : lite N ops = some L) (h : OG P call L g H (fun g' H' => Q .normal g' H') (fun p H' => ∀ g', Q (.pan p) g' H')) : RG P call N n (.region id ops false) g H Q := by
  intro tm hl hg
  subst hg
  have hr := runG_ok (P := P) (call := call) ops.toList L tm H hL hl
  refine run_region ?_
  unfold Ops
  rcases h with ⟨g', H', h1, h2⟩ | ⟨p, H', h1, h2⟩
  · rw [h1] at hr
    obtain ⟨tm', h3, h4, h5⟩ := hr
    exact .inl ⟨tm', H', h3, h4, h5 ▸ h2⟩
  · rw [h1] at hr
    exact .inr ⟨p, H', hr, hl, h2 _⟩
theorem noPairs_run {ops : Array Oper} {tm tm' : List AV} {H' : Heap} (hn : F.noPairs P ops = true) (h : runOps P call ops ops.toList tm H = some (.go tm' H')) : runDraw P call ops tm H = some (.go tm' H') := by
  unfold F.noPairs at hn
  split at hn <;> try (cases hn; done)
  rename_i hp
  obtain ⟨s, hs⟩ := F.trace_run P h
  unfold runDraw
  rw [if_pos hn, hs, hp]
  rfl
theorem rg_draw {id : Nat} {ops : Array Oper} {L : List SOp} (hn : F.noPairs P ops = true) (hL : lite N ops = some L) (h : OG P call L g H (fun g' H' => Q .normal g' H') (fun p H' => False)) : RG P call N n (.region id ops true) g H Q := by
  intro tm hl hg
  subst hg
  have hr := runG_ok (P := P) (call := call) ops.toList L tm H hL hl
  rcases h with ⟨g', H', h1, h2⟩ | ⟨p, H', h1, h2⟩
  · rw [h1] at hr
    obtain ⟨tm', h3, h4, h5⟩ := hr
    exact run_draw (noPairs_run hn h3) ⟨h4, h5 ▸ h2⟩
  · exact h2.elim
theorem rg_skip (h : Q .normal g H) : RG P call N n .skip g H Q := fun tm h1 h2 => run_skip ⟨h1, h2 ▸ h⟩
theorem rg_ret (h : Q .ret g H) : RG P call N n .ret g H Q := fun tm h1 h2 => run_ret ⟨h1, h2 ▸ h⟩
theorem rg_exit {id : Nat} (h : Q (.exit id) g H) : RG P call N n (.exit id) g H Q := fun tm h1 h2 => run_exit ⟨h1, h2 ▸ h⟩
theorem rg_label {l : Nat} (h : Q .normal g H) : RG P call N n (.label l) g H Q := fun tm h1 h2 => run_label ⟨h1, h2 ▸ h⟩
def AX.thenG (K : Slots → Heap → Prop) (Q : AX → Slots → Heap → Prop) : AX → Slots → Heap → Prop
  | .normal, g, H => K g H
  | ax, g, H => Q ax g H
theorem rg_seq {a b : Code} (h : RG P call N n a g H (AX.thenG (fun g' H' => RG P call N n b g' H' Q) Q)) : RG P call N n (.seq a b) g H Q := by
  intro tm h1 h2
  refine run_seq (run_mono (h tm h1 h2) fun ax tm' H' hq => ?_)
  cases ax with
  | normal => exact hq.2 tm' hq.1 rfl
  | _ => exact hq
theorem rg_cond {c : Operand} {a b : Code} {t : Bool} (hc : F.evF g c = some (.bool t)) (ht : t = true → RG P call N n a g H Q) (hf : t = false → RG P call N n b g H Q) : RG P call N n (.cond c a b) g H Q := by
  intro tm h1 h2
  have e : ev tm c = some (.bool t) := by rw [F.ev_rl, h2]; exact hc
  exact run_cond e (fun h => ht h tm h1 h2) (fun h => hf h tm h1 h2)
def AX.inBlockG (id : Nat) (Q : AX → Slots → Heap → Prop) : AX → Slots → Heap → Prop
  | .exit i, g, H => if i = id then Q .normal g H else Q (.exit i) g H
  | ax, g, H => Q ax g H
theorem rg_block {id : Nat} {b : Code} (h : RG P call N n b g H (AX.inBlockG id Q)) : RG P call N n (.block id b) g H Q := by
  intro tm h1 h2
  refine run_block (run_mono (h tm h1 h2) fun ax tm' H' hq => ?_)
  cases ax with
  | exit i =>
    have hq2 := hq.2
    unfold AX.inBlockG at hq2
    unfold AX.inBlock
    dsimp only at hq2 ⊢
    split
    · rename_i hi; rw [if_pos hi] at hq2; exact ⟨hq.1, hq2⟩
    · rename_i hi; rw [if_neg hi] at hq2; exact ⟨hq.1, hq2⟩
  | _ => exact hq
theorem rg_scope {b : Code} (h : RG P call N n b g H Q) : RG P call N n (.scope b) g H Q := fun tm h1 h2 => run_scope (h tm h1 h2)
/-- A loop: I m holds with at least m rounds to go. -/
theorem rg_loop {b : Code} (I : Nat → Slots → Heap → Prop) {m : Nat} (hm : m < n) (h : I m g H) (step : ∀ m g H, I m g H → RG P call N n b g H (AX.thenG (fun g' H' => ∃ m', m' < m ∧ I m' g' H') Q)) : RG P call N n (.loop b) g H Q := by
  intro tm h1 h2
  refine run_loop (fun m tm H => tm.length = N ∧ I m (F.rl tm) H) (fun m tm H hI => ?_) hm ⟨h1, h2 ▸ h⟩
  refine run_mono (step m _ H hI.2 tm hI.1 rfl) fun ax tm' H' hq => ?_
  cases ax with
  | normal => obtain ⟨m', h3, h4⟩ := hq.2; exact ⟨m', h3, hq.1, h4⟩
  | _ => exact hq

/-! bodies -/
def BodyG (P : Program) (fn : Func) (R : CR → Heap → Prop) : AX → Slots → Heap → Prop
  | .normal, g, H | .ret, g, H => ∃ tm : List AV, F.rl tm = g ∧ ∃ v, resA P fn tm H = some v ∧ R (.ret v) H
  | .pan p, _, H => R (.pan p) H
  | .exit _, _, _ => False
theorem res1 {fn : Func} {t : Nat} (h : fn.results.toList = [.tmp t]) (tm : List AV) (H : Heap) : resA P fn tm H = some (F.rl tm t) := by
  simp only [resA, h, mapO, resA1]; rfl
theorem rg_body {fn : Func} {c : Code} {args : List AV} {R : CR → Heap → Prop} (hb : fn.body = some c) (hN : args.length ≤ fn.ntmps)
    (h : RG P call fn.ntmps n c (F.rl args) H (fun ax g H' => ∀ tm : List AV, F.rl tm = g → BodyQ P fn R ax tm H')) : ∃ r H', callBody P call n fn args H = some (r, H') ∧ R r H' := by
  refine run_body hb ?_
  have e : F.rl (args ++ List.replicate (fn.ntmps - args.length) .undef) = F.rl args := by
    funext i
    show (args ++ List.replicate (fn.ntmps - args.length) AV.undef).getD i .undef = args.getD i .undef
    simp only [List.getD_eq_getElem?_getD, List.getElem?_append, List.getElem?_replicate]
    split
    · rfl
    · rename_i hi
      rw [List.getElem?_eq_none (by omega)]
      split <;> rfl
  exact run_mono (h _ (by simp; omega) e) fun ax tm H' hq => hq.2 tm rfl
end
attribute [irreducible] RG OG
end Go.Ab

/- The abstract machine: code by its regions; small laws for runs with unknown data. -/
namespace Go.Ab
set_option linter.unusedVariables false
set_option linter.unusedSectionVars false

/-- The regions of a piece of code in the order of the text. -/
def regionsOf : Code → List (Array Oper)
  | .region _ ops _ => [ops]
  | .seq a b | .cond _ a b => regionsOf a ++ regionsOf b
  | .block _ b | .loop b | .scope b => regionsOf b
  | _ => []
def bodyOf (fn : Func) : Code := fn.body.getD .skip

variable {P : Program}
/-! slices as rows -/
inductive IsSl : AV → List (List AV) → Prop where
  | nils : IsSl .nils []
  | isl (t : Bool) (rows : List (List AV)) : IsSl (.isl t rows) rows
theorem HasT.sl_inv {t e : TypeId} {cs : List AV} (h : HasT P t cs) (hu : P.underlying t = some (.slice e)) : ∃ x rows, cs = [x] ∧ IsSl x rows ∧ (x = .nils ∧ rows = [] ∨ x = .isl true rows) ∧ (∀ r, r ∈ rows → HasT P e r) ∧ (∀ r, r ∈ rows → r.length = P.cellsOf e) ∧ rows.length ≤ maxLen := by
  cases h with
  | nils _ e' h => exact ⟨_, [], rfl, .nils, .inl ⟨rfl, rfl⟩, by simp, by simp, by decide⟩
  | isl _ e' rows h h1 h2 h3 => rw [hu] at h; cases h; exact ⟨_, rows, rfl, .isl _ _, .inr rfl, h1, h2, h3⟩
  | bool _ b h => rw [hu] at h; cases h
  | int _ k n h => rw [hu] at h; cases h
  | str _ s h => rw [hu] at h; cases h
  | struct _ fs cs h => rw [hu] at h; cases h
theorem HasT.int_inv {t : TypeId} {k : IntKind} {cs : List AV} (h : HasT P t cs) (hu : P.underlying t = some (.int k)) : ∃ n, cs = [.int k n] ∧ (Lit.int k n).wf = true := by
  cases h with
  | int _ k' n h hw => rw [hu] at h; cases h; exact ⟨n, rfl, hw⟩
  | nils _ e' h => rw [hu] at h; cases h
  | isl _ e' rows h h1 h2 h3 => rw [hu] at h; cases h
  | bool _ b h => rw [hu] at h; cases h
  | str _ s h => rw [hu] at h; cases h
  | struct _ fs cs h => rw [hu] at h; cases h
theorem HasT.bool_inv {t : TypeId} {cs : List AV} (h : HasT P t cs) (hu : P.underlying t = some .bool) : ∃ b, cs = [.bool b] := by
  cases h with
  | bool _ b h => exact ⟨b, rfl⟩
  | int _ k' n h hw => rw [hu] at h; cases h
  | nils _ e' h => rw [hu] at h; cases h
  | isl _ e' rows h h1 h2 h3 => rw [hu] at h; cases h
  | str _ s h => rw [hu] at h; cases h
  | struct _ fs cs h => rw [hu] at h; cases h
theorem HasT.str_inv {t : TypeId} {cs : List AV} (h : HasT P t cs) (hu : P.underlying t = some .string) : ∃ s, cs = [.str s] ∧ s.length ≤ maxLen := by
  cases h with
  | str _ s h hs => exact ⟨s, rfl, hs⟩
  | bool _ b h => rw [hu] at h; cases h
  | int _ k' n h hw => rw [hu] at h; cases h
  | nils _ e' h => rw [hu] at h; cases h
  | isl _ e' rows h h1 h2 h3 => rw [hu] at h; cases h
  | struct _ fs cs h => rw [hu] at h; cases h
theorem HasT.struct_inv {t : TypeId} {fs : Array Field} {cs : List AV} (h : HasT P t cs) (hu : P.underlying t = some (.struct fs)) : HasFs P fs.toList cs := by
  cases h with
  | struct _ fs' cs h h1 => rw [hu] at h; cases h; exact h1
  | str _ s h hs => rw [hu] at h; cases h
  | bool _ b h => rw [hu] at h; cases h
  | int _ k' n h hw => rw [hu] at h; cases h
  | nils _ e' h => rw [hu] at h; cases h
  | isl _ e' rows h h1 h2 h3 => rw [hu] at h; cases h
theorem HasFs.cons_inv {f : Field} {fs : List Field} {cs : List AV} (h : HasFs P (f :: fs) cs) : ∃ a b, cs = a ++ b ∧ HasT P f.type a ∧ a.length = P.cellsOf f.type ∧ HasFs P fs b := by
  cases h with
  | cons f fs a b h1 h2 h3 => exact ⟨a, b, rfl, h1, h2, h3⟩
theorem HasFs.nil_inv {cs : List AV} (h : HasFs P [] cs) : cs = [] := by
  cases h; rfl

/-- Cells of the types of a list. -/
def HasTs (P : Program) : List TypeId → List AV → Prop
  | [], cs => cs = []
  | t :: ts, cs => ∃ a b, cs = a ++ b ∧ HasT P t a ∧ HasTs P ts b
theorem HasFs.types : ∀ {fs : List Field} {cs : List AV}, HasFs P fs cs → HasTs P (fs.map (·.type)) cs
  | _, _, .nil => rfl
  | _, _, .cons f fs a b h1 _ h3 => ⟨a, b, rfl, h1, h3.types⟩
theorem HasT.fields {t : TypeId} {fs : Array Field} {cs : List AV} {ts : List TypeId} (h : HasT P t cs) (hu : P.underlying t = some (.struct fs)) (ht : fs.toList.map (·.type) = ts) : HasTs P ts cs := ht ▸ (h.struct_inv hu).types

/-- A cell that is lent as it is. -/
def Flat (x : AV) : Prop := ∀ H k, frz true H (k + 1) x = some x
theorem flat_nils : Flat .nils := fun H k => by simp [frz]
theorem flat_isl (t : Bool) (rows : List (List AV)) : Flat (.isl t rows) := fun H k => by simp [frz]
theorem flat_int (k : IntKind) (n : Int) : Flat (.int k n) := fun H m => by simp [frz]
theorem flat_str (s : List UInt8) : Flat (.str s) := fun H m => by simp [frz]
theorem flat_bool (b : Bool) : Flat (.bool b) := fun H m => by simp [frz]
theorem IsSl.flat {x : AV} {rows : List (List AV)} (h : IsSl x rows) : Flat x := by cases h; exact flat_nils; exact flat_isl _ _
mutual
theorem HasT.flat : ∀ {t : TypeId} {cs : List AV}, HasT P t cs → ∀ x, x ∈ cs → Flat x
  | _, _, .bool _ b _, x, hx => by simp at hx; subst hx; exact flat_bool b
  | _, _, .int _ k n _ _, x, hx => by simp at hx; subst hx; exact flat_int k n
  | _, _, .str _ s _ _, x, hx => by simp at hx; subst hx; exact flat_str s
  | _, _, .nils _ e _, x, hx => by simp at hx; subst hx; exact flat_nils
  | _, _, .isl _ e rows _ _ _ _, x, hx => by simp at hx; subst hx; exact flat_isl _ _
  | _, _, .struct _ fs cs _ h1, x, hx => HasFs.flat h1 x hx
theorem HasFs.flat : ∀ {fs : List Field} {cs : List AV}, HasFs P fs cs → ∀ x, x ∈ cs → Flat x
  | _, _, .nil, x, hx => by simp at hx
  | _, _, .cons f fs a b h1 _ h3, x, hx => (List.mem_append.1 hx).elim (HasT.flat h1 x) (HasFs.flat h3 x)
end
theorem frzs_flat {H : Heap} : ∀ (l : List AV) (k : Nat), (∀ x, x ∈ l → Flat x) → l.length < k → frzs true H k l = some l
  | [], k, _, hk => by
    obtain ⟨k, rfl⟩ : ∃ m, k = m + 1 := ⟨k - 1, by simp at hk; omega⟩
    simp [frzs]
  | x :: l, k, hf, hk => by
    simp only [List.length_cons] at hk
    obtain ⟨k, rfl⟩ : ∃ m, k = m + 2 := ⟨k - 2, by omega⟩
    rw [frzs]
    simp only [hf x (by simp) H k, frzs_flat l (k + 1) (fun y hy => hf y (by simp [hy])) (by omega)]
theorem flat_agg {cs : List AV} {H : Heap} {k : Nat} (hf : ∀ x, x ∈ cs → Flat x) (hk : cs.length < k) : frz true H (k + 1) (.agg cs) = some (.agg cs) := by
  rw [frz]
  simp only [frzs_flat cs k hf hk]
end Go.Ab

/- The abstract machine: calls with unknown data; 'from some fuel on'. -/
namespace Go.Ab
set_option linter.unusedVariables false
set_option linter.unusedSectionVars false
variable [HasBase] {P : Program}

/-- From some fuel on. -/
def Ev (p : Nat → Prop) : Prop := ∃ K, ∀ k, K ≤ k → p k
theorem Ev.of {p : Nat → Prop} (h : ∀ k, p k) : Ev p := ⟨0, fun k _ => h k⟩
theorem Ev.and {p q : Nat → Prop} (h : Ev p) (h' : Ev q) : Ev fun k => p k ∧ q k := by
  obtain ⟨K, h⟩ := h
  obtain ⟨K', h'⟩ := h'
  exact ⟨K + K', fun k hk => ⟨h k (by omega), h' k (by omega)⟩⟩
theorem Ev.mono {p q : Nat → Prop} (h : Ev p) (hq : ∀ k, p k → q k) : Ev q := by
  obtain ⟨K, h⟩ := h
  exact ⟨K, fun k hk => hq k (h k hk)⟩
theorem Ev.ge (n : Nat) : Ev fun k => n ≤ k := ⟨n, fun k h => h⟩
theorem Ev.succ {p q : Nat → Prop} (h : Ev p) (hq : ∀ k, p k → q (k + 1)) : Ev q := by
  obtain ⟨K, h⟩ := h
  refine ⟨K + 1, fun k hk => ?_⟩
  obtain ⟨m, rfl⟩ : ∃ m, k = m + 1 := ⟨k - 1, by omega⟩
  exact hq m (h m (by omega))
theorem Ev.all {α : Type} {p : α → Nat → Prop} : ∀ {l : List α}, (∀ x, x ∈ l → Ev (p x)) → Ev fun k => ∀ x, x ∈ l → p x k
  | [], _ => ⟨0, fun k _ x hx => by simp at hx⟩
  | a :: l, h => by
    refine ((h a (by simp)).and (Ev.all (l := l) fun x hx => h x (by simp [hx]))).mono fun k hk x hx => ?_
    rcases List.mem_cons.1 hx with rfl | hx
    · exact hk.1
    · exact hk.2 x hx

/-- How a body without a panic ends. -/
def EndsG (R : Slots → Heap → Prop) : AX → Slots → Heap → Prop
  | .normal, g, H | .ret, g, H => R g H
  | _, _, _ => False
section
variable {cfg : Cfg} {k : Nat} {f : FuncId} {fn : Func} {c : Code} {args : List AV} {H : Heap}
theorem body_in {R : AV → Heap → Prop} (hf : P.funcs[f]? = some fn) (hd : cfg.dfr f = false) (hb : fn.body = some c) (hN : args.length ≤ fn.ntmps)
    (h : RG P (callN P cfg k) fn.ntmps k c (F.rl args) H (EndsG fun g H' => ∀ tm : List AV, F.rl tm = g → ∃ v, resA P fn tm H' = some v ∧ R v H')) : ∃ v H', bodyA P cfg (callN P cfg k) k f fn args H = some (.ret v, H') ∧ R v H' := by
  obtain ⟨r, H', h1, h2⟩ := rg_body (call := callN P cfg k) (n := k) (R := fun r H' => ∃ v, r = .ret v ∧ R v H') hb hN (h.mono fun ax g H' hq tm htm => by
    cases ax with
    | normal => obtain ⟨v, h1, h2⟩ := hq tm htm; exact ⟨v, h1, v, rfl, h2⟩
    | ret => obtain ⟨v, h1, h2⟩ := hq tm htm; exact ⟨v, h1, v, rfl, h2⟩
    | pan p => exact hq.elim
    | exit i => exact hq.elim)
  obtain ⟨v, rfl, h3⟩ := h2
  refine ⟨v, H', ?_, h3⟩
  unfold bodyA
  rw [hd]
  exact h1
/-- A call that shares the caller's heap. -/
theorem call_in {R : AV → Heap → Prop} (hs : cfg.sum f args H = none) (ho : cfg.ok f = true) (hp : cfg.pure f = false) (hf : P.funcs[f]? = some fn) (hd : cfg.dfr f = false) (hb : fn.body = some c) (hN : args.length ≤ fn.ntmps)
    (h : RG P (callN P cfg k) fn.ntmps k c (F.rl args) H (EndsG fun g H' => ∀ tm : List AV, F.rl tm = g → ∃ v, resA P fn tm H' = some v ∧ R v H')) : ∃ v H', callN P cfg (k + 1) f args H = some (.ret v, H') ∧ R v H' := by
  obtain ⟨v, H', h1, h2⟩ := body_in hf hd hb hN h
  exact ⟨v, H', by simp only [callN, hs, ho, hf, hp, h1], h2⟩
/-- A call with a heap of its own. -/
theorem call_pure {R : AV → Prop} (hs : cfg.sum f args H = none) (ho : cfg.ok f = true) (hp : cfg.pure f = true) (hf : P.funcs[f]? = some fn) (hd : cfg.dfr f = false) (hb : fn.body = some c) (hN : args.length ≤ fn.ntmps) (hz : frzs true H 100000 args = some args)
    (h : RG P (callN P cfg k) fn.ntmps k c (F.rl args) Heap.empty (EndsG fun g H' => ∀ tm : List AV, F.rl tm = g → ∃ v v', resA P fn tm H' = some v ∧ frz false H' 100000 v = some v' ∧ R v')) : ∃ v, callN P cfg (k + 1) f args H = some (.ret v, H) ∧ R v := by
  obtain ⟨v, H', h1, v', h2, h3⟩ := body_in (R := fun v H' => ∃ v', frz false H' 100000 v = some v' ∧ R v') hf hd hb hN (h.mono fun ax g H' hq => by
    cases ax with
    | normal => intro tm htm; obtain ⟨v, v', h1, h2, h3⟩ := hq tm htm; exact ⟨v, h1, v', h2, h3⟩
    | ret => intro tm htm; obtain ⟨v, v', h1, h2, h3⟩ := hq tm htm; exact ⟨v, h1, v', h2, h3⟩
    | pan p => exact hq.elim
    | exit i => exact hq.elim)
  exact ⟨v', by simp only [callN, hs, ho, hf, hp, hz, h1, h2], h3⟩
end
/-- One result, in a slot. -/
theorem res_tmp {fn : Func} {t : Nat} {g : Slots} {H : Heap} {v : AV} {R : AV → Prop} (hr : fn.results.toList = [.tmp t]) (hv : g t = v) (hR : R v) : ∀ tm : List AV, F.rl tm = g → ∃ v, resA P fn tm H = some v ∧ R v := fun tm htm => ⟨_, res1 hr tm H, by rw [htm, hv]; exact hR⟩
theorem res_tmpF {fn : Func} {t : Nat} {g : Slots} {H : Heap} {v : AV} {R : AV → Prop} (hr : fn.results.toList = [.tmp t]) (hv : g t = v) (hz : ∀ k, frz false H (k + 1) v = some v) (hR : R v) : ∀ tm : List AV, F.rl tm = g → ∃ v v', resA P fn tm H = some v ∧ frz false H 100000 v = some v' ∧ R v' := fun tm htm => ⟨_, v, res1 hr tm H, by rw [htm, hv]; exact hz 99999, hR⟩
theorem frz_bool (t : Bool) (H : Heap) (b : Bool) (k : Nat) : frz t H (k + 1) (.bool b) = some (.bool b) := by simp [frz]
theorem frz_int (t : Bool) (H : Heap) (kd : IntKind) (n : Int) (k : Nat) : frz t H (k + 1) (.int kd n) = some (.int kd n) := by simp [frz]

/-! what is lent as it is -/
def FlatA (x : AV) : Prop := ∀ H k, 1000 ≤ k → frz true H k x = some x
theorem Flat.A {x : AV} (h : Flat x) : FlatA x := fun H k hk => by
  obtain ⟨m, rfl⟩ : ∃ m, k = m + 1 := ⟨k - 1, by omega⟩
  exact h H m
theorem HasT.aggA {t : TypeId} {c : List AV} (h : HasT P t c) (hl : c.length < 999) : FlatA (.agg c) := fun H k hk => by
  obtain ⟨m, rfl⟩ : ∃ m, k = m + 1 := ⟨k - 1, by omega⟩
  exact flat_agg h.flat (by omega)
theorem frzsA {H : Heap} : ∀ (l : List AV) (k : Nat), (∀ x, x ∈ l → FlatA x) → l.length + 1000 < k → frzs true H k l = some l
  | [], k, _, hk => by
    obtain ⟨k, rfl⟩ : ∃ m, k = m + 1 := ⟨k - 1, by omega⟩
    simp [frzs]
  | x :: l, k, hf, hk => by
    simp only [List.length_cons] at hk
    obtain ⟨k, rfl⟩ : ∃ m, k = m + 1 := ⟨k - 1, by omega⟩
    rw [frzs]
    simp only [hf x (by simp) H k (by omega), frzsA l k (fun y hy => hf y (by simp [hy])) (by omega)]
theorem frz1 {H : Heap} {x : AV} (h : FlatA x) : frzs true H 100000 [x] = some [x] := frzsA _ _ (by simpa using h) (by simp)
theorem frz2 {H : Heap} {x y : AV} (h : FlatA x) (h' : FlatA y) : frzs true H 100000 [x, y] = some [x, y] := frzsA _ _ (by simpa using ⟨h, h'⟩) (by simp)
mutual
theorem HasT.cell : ∀ {t : TypeId} {cs : List AV}, HasT P t cs → ∀ x, x ∈ cs → x.isCell = true
  | _, _, .bool _ b _, x, hx => by simp at hx; subst hx; rfl
  | _, _, .int _ k n _ _, x, hx => by simp at hx; subst hx; rfl
  | _, _, .str _ s _ _, x, hx => by simp at hx; subst hx; rfl
  | _, _, .nils _ e _, x, hx => by simp at hx; subst hx; rfl
  | _, _, .isl _ e rows _ _ _ _, x, hx => by simp at hx; subst hx; rfl
  | _, _, .struct _ fs cs _ h1, x, hx => HasFs.cell h1 x hx
theorem HasFs.cell : ∀ {fs : List Field} {cs : List AV}, HasFs P fs cs → ∀ x, x ∈ cs → x.isCell = true
  | _, _, .nil, x, hx => by simp at hx
  | _, _, .cons f fs a b h1 _ h3, x, hx => (List.mem_append.1 hx).elim (HasT.cell h1 x) (HasFs.cell h3 x)
end
theorem HasT.all {t : TypeId} {cs : List AV} (h : HasT P t cs) : cs.all AV.isCell = true := List.all_eq_true.2 h.cell
theorem evs0 {g : Slots} : F.evsF g [] = some [] := rfl
theorem evsC {g : Slots} {x : Operand} {xs : List Operand} {v : AV} {vs : List AV} (h : F.evF g x = some v) (h' : F.evsF g xs = some vs) : F.evsF g (x :: xs) = some (v :: vs) := by
  simp only [F.evsF] at h' ⊢
  simp only [mapO, h, h']

section
variable {call : CallFn} {g : Slots} {H : Heap} {K : Slots → Heap → Prop} {KP : AV → Heap → Prop} {d : Nat} {os : List SOp}
/-- A piece of a region by what it leaves. -/
theorem og_part (n : Nat) {l : List SOp} (K' : Slots → Heap → Prop) (h : OG P call (l.take n) g H K' (fun _ _ => False)) (k : ∀ g' H', K' g' H' → OG P call (l.drop n) g' H' K KP) : OG P call l g H K KP := by
  have key : ∀ (l1 l2 : List SOp) (g : Slots) (H : Heap), runG P call (l1 ++ l2) g H = match runG P call l1 g H with | some (.go g H) => runG P call l2 g H | r => r := by
    intro l1
    induction l1 with
    | nil => intro l2 g H; rfl
    | cons o os ih =>
      intro l2 g H
      simp only [List.cons_append, runG]
      cases stepG P call o g H with
      | none => rfl
      | some r => cases r with
        | go g H => exact ih l2 g H
        | pan v H => rfl
  unfold OG at h k ⊢
  rw [← List.take_append_drop n l, key]
  rcases h with ⟨g', H', h1, h2⟩ | ⟨p, H', h1, h2⟩
  · rw [h1]; exact k g' H' h2
  · exact h2.elim
theorem og_all {l : List SOp} (K' : Slots → Heap → Prop) (h : OG P call l g H K' (fun _ _ => False)) (k : ∀ g' H', K' g' H' → K g' H') : OG P call l g H K KP := by
  unfold OG at h ⊢
  rcases h with ⟨g', H', h1, h2⟩ | ⟨p, H', h1, h2⟩
  · exact .inl ⟨g', H', h1, k _ _ h2⟩
  · exact h2.elim
theorem wrap_succ {i : Nat} (h : i + 1 ≤ maxLen) : IntKind.i64.wrap ((i : Int) + 1) = ((i + 1 : Nat) : Int) := by
  have h2 : i + 1 ≤ 9223372036854775807 := h
  have := F.wrapF_eq .i64 ((i : Int) + 1)
  rw [← this]
  show F.wPos (i + 1) .i64 = _
  unfold F.wPos
  have : Nat.ble (i + 1) (F.lim .i64) = true := Nat.ble_eq_true_of_le h2
  rw [this]; rfl
/-- One more. -/
theorem x_inc {i : Nat} {x : Operand} {ty ty' : TypeId} (hx : F.evF g x = some (.int .i64 i)) (h : i + 1 ≤ maxLen) (k : OG P call os (updG g d (.int .i64 ((i + 1 : Nat) : Int))) H K KP) : OG P call (⟨some d, .binOp .add ty x (.const (.int .i64 1)) ty', none⟩ :: os) g H K KP :=
  x_bin hx rfl (by rw [← wrap_succ h]; rfl) k
/-- The length of a slice. -/
theorem len_sl {t e : TypeId} {x : AV} {rows : List (List AV)} (hu : P.underlying t = some (.slice e)) (hx : IsSl x rows) : lenA P H t x = some (.int .i64 rows.length) := by
  cases hx <;> simp [lenA, hu]
theorem len_str {t : TypeId} {s : List UInt8} (hu : P.underlying t = some .string) : lenA P H t (.str s) = some (.int .i64 s.length) := by simp [lenA, hu]
theorem get_push_new (H : Heap) (o : Ob) : (H.push o).get H.n = o := Heap.get_push_new H o
theorem get_push {H : Heap} {id : Nat} {o ob : Ob} (h : H.get id = ob) (hl : ob.live) : (H.push o).get id = ob := by
  rw [Heap.get_push_old o (Heap.get_lt (h ▸ hl))]; exact h
theorem get_push_row {H : Heap} {id : Nat} {o : Ob} {bx : Bool} {e : TypeId} {cs : List AV} (h : H.get id = .row bx e cs) : (H.push o).get id = .row bx e cs := get_push h trivial
theorem sizeOf_row {rows : List (List AV)} {r : List AV} (h : r ∈ rows) (t : Bool) : SizeOf.sizeOf r < SizeOf.sizeOf (AV.isl t rows) := by
  have := List.sizeOf_lt_of_mem h
  simp only [AV.isl.sizeOf_spec]; omega
/-! what equals itself -/
variable {P : Program}
theorem neqI {t : TypeId} {x y : Operand} {k : IntKind} {n : Int} : binA P .neq t x y (.int k n) (.int k n) = some (.bool false) := by simp [binA, intOp, cmpInt]
theorem neqS {t : TypeId} {x y : Operand} {s : List UInt8} : binA P .neq t x y (.str s) (.str s) = some (.bool false) := by simp [binA, strOp]
theorem eqFields_refl {r : TypeId → AV → AV → Option Bool} {xs : List AV} : ∀ {fs : List Field}, (∀ f, f ∈ fs → ∃ a, partA P f.type xs f.offset = some a ∧ r f.type a a = some true) → eqFields P r xs xs fs = some true
  | [], _ => rfl
  | f :: fs, h => by
    have ih := eqFields_refl (fs := fs) fun f hf => h f (by simp [hf])
    simp only [eqFields]
    split
    · exact ih
    · obtain ⟨a, h1, h2⟩ := h f (by simp)
      simp only [h1, h2, ih]
theorem eqA_struct {d : Nat} {t : TypeId} {fs : Array Field} {L : List (TypeId × Nat)} {xs : List AV} (hu : P.underlying t = some (.struct fs)) (hs : P.stoodInHeld t = false) (hL : fs.toList.map (fun f => (f.type, f.offset)) = L)
    (h : ∀ p, p ∈ L → ∃ a, partA P p.1 xs p.2 = some a ∧ eqA P d p.1 a a = some true) : eqA P (d + 1) t (.agg xs) (.agg xs) = some true := by
  simp only [eqA, hu, hs, if_true]
  refine eqFields_refl fun f hf => h (f.type, f.offset) ?_
  rw [← hL]
  exact List.mem_map.2 ⟨f, hf, rfl⟩
theorem eqA_int {d : Nat} {t : TypeId} {k : IntKind} {n : Int} (hu : P.underlying t = some (.int k)) : eqA P (d + 1) t (.int k n) (.int k n) = some true := by simp [eqA, hu]
theorem eqA_str {d : Nat} {t : TypeId} {s : List UInt8} (hu : P.underlying t = some .string) : eqA P (d + 1) t (.str s) (.str s) = some true := by simp [eqA, hu]
theorem neqAgg {t : TypeId} {x y : Operand} {xs : List AV} (hg : P.eqGuardType P.depth t = false) (h : eqA P eqDepth t (.agg xs) (.agg xs) = some true) : binA P .neq t x y (.agg xs) (.agg xs) = some (.bool false) := by
  simp only [binA, hg, if_true, h]; rfl
theorem part1 {t : TypeId} {xs : List AV} {o : Nat} (hg : tagg P t = some false) : partA P t xs o = xs[o]? := by simp [partA, hg]
end
end Go.Ab

/- The abstract machine: heaps that grow; slices that are built; searches. -/
namespace Go.Ab
set_option linter.unusedVariables false
set_option linter.unusedSectionVars false
variable [HasBase] {P : Program}

/-- What lay there lies there. -/
structure Grow (H H' : Heap) : Prop where
  le : H.n ≤ H'.n
  old : ∀ id, id < H.n → H'.get id = H.get id
  wf : H.wf → H'.wf
theorem Grow.refl (H : Heap) : Grow H H := ⟨Nat.le_refl _, fun _ _ => rfl, fun h => h⟩
theorem Grow.trans {H H' H'' : Heap} (h : Grow H H') (k : Grow H' H'') : Grow H H'' :=
  ⟨Nat.le_trans h.le k.le, fun id hid => (k.old id (Nat.lt_of_lt_of_le hid h.le)).trans (h.old id hid), fun hw => k.wf (h.wf hw)⟩
theorem Grow.push (H : Heap) (o : Ob) : Grow H (H.push o) := ⟨Nat.le_succ _, fun id h => Heap.get_push_old o h, fun hw => Heap.wf_push o hw⟩
theorem Grow.row {H H' : Heap} (h : Grow H H') {id : Nat} {bx : Bool} {e : TypeId} {cs : List AV} (hr : H.get id = .row bx e cs) : H'.get id = .row bx e cs := by
  rw [h.old id (Heap.get_lt (hr ▸ trivial))]; exact hr
theorem Grow.setNew {H H' : Heap} (h : Grow H H') {id : Nat} (o : Ob) (h1 : H.n ≤ id) (h2 : id < H'.n) : Grow H (H'.set id o) :=
  ⟨h.le, fun i hi => (Heap.get_set_other o (by omega) h2).trans (h.old i hi), fun hw => Heap.wf_set id o (h.wf hw)⟩
theorem set_push_new (H : Heap) (o o' : Ob) : (H.push o).set H.n o' = H.push o' := by
  unfold Heap.set Heap.push
  simp
theorem wf_empty : Heap.empty.wf := rfl
theorem load_agg {H : Heap} {t : TypeId} {id n : Nat} {bx : Bool} {e : TypeId} {cs : List AV} (hg : tagg P t = some true) (hn : tsz P t = some n) (hH : H.get id = .row bx e cs) (hl : cs.length = n) : loadA P H t (.ptr id 0) = some (.agg cs) := by
  subst hl
  simp [loadA, loadN, hg, hn, rd, hH]
/-- Two results, the first of which lies in a cell. -/
theorem res_cell2 {fn : Func} {a t : Nat} {ty : TypeId} {g : Slots} {H : Heap} {x y : AV} {R : AV → Prop} (hr : fn.results.toList = [.cell a ty, .tmp t]) (ha : loadA P H ty (g a) = some x) (ht : g t = y) (hR : R (.tup [x, y])) : ∀ tm : List AV, F.rl tm = g → ∃ v, resA P fn tm H = some v ∧ R v := fun tm htm => by
  subst htm
  have ha' : loadA P H ty (tm.getD a .undef) = some x := ha
  have ht' : tm.getD t .undef = y := ht
  exact ⟨.tup [x, y], by simp only [resA, hr, mapO, resA1, ha', ht'], hR⟩
theorem Grow.pushed {H H' : Heap} (h : Grow H H') (o : Ob) : Grow H (H'.push o) := h.trans (.push _ _)

section
variable {call : CallFn} {g : Slots} {H H' : Heap} {os : List SOp} {K : Slots → Heap → Prop} {KP : AV → Heap → Prop} {d : Nat} {v : AV}
theorem x_buildSlice {t : TypeId} {n : Nat} {ps : Array (Nat × Operand)} {vs : List (Nat × AV)} (hx : F.evPartsF g ps.toList = some vs) (h : buildSliceA P H t n vs = some (v, H')) (k : OG P call os (updG g d v) H' K KP) : OG P call (⟨some d, .buildSlice t n ps, none⟩ :: os) g H K KP := by
  refine og_val rfl ?_ k
  show (match F.evPartsF g ps.toList with | some ps => bothR (buildSliceA P H t n ps) | none => none) = _
  rw [hx]
  simp only [h, bothR]
theorem x_append {args : Array Operand} {tys : Array TypeId} {s x : AV} {t tx elem : TypeId} (hx : F.evsF g args.toList = some [s, x]) (ht : tys[0]? = some t) (htx : tys[1]? = some tx) (hu : P.underlying t = some (.slice elem)) (hux : ∃ e, P.underlying tx = some (.slice e)) (h : appendA P H elem s x = some (v, H')) (k : OG P call os (updG g d v) H' K KP) : OG P call (⟨some d, .call ⟨.builtin .append, args, tys⟩, none⟩ :: os) g H K KP := by
  refine og_val rfl ?_ k
  show (match F.evsF g args.toList with | some args => builtinA P H .append tys args | none => none) = _
  rw [hx]
  obtain ⟨e, hux⟩ := hux
  simp only [builtinA, ht, htx, hu, hux, h, bothR]
theorem parts1 {i : Nat} {x : Operand} (h : F.evF g x = some v) : F.evPartsF g [(i, x)] = some [(i, v)] := by
  simp [F.evPartsF, mapO, h]
/-- An empty slice that is not nil. -/
theorem slice0 {t e : TypeId} {n : Nat} {z : AV} (hu : P.underlying t = some (.slice e)) (hn : tsz P e = some n) (hz : tzero P e = some z) (hc : z.cells.length = n) (h0 : 0 < n) : buildSliceA P H t 0 [] = some (.sl H.n 0 0 n, H.push (.row false e [])) := by
  simp only [buildSliceA, hu, hn, hz]
  rw [if_pos ⟨h0, by omega, hc⟩]
  simp [repL, fillA]
/-- A slice of one cell. -/
theorem slice1 {t e : TypeId} {z x : AV} (hu : P.underlying t = some (.slice e)) (hn : tsz P e = some 1) (hz : tzero P e = some z) (hc : z.cells.length = 1) (hx : x.isCell = true) : buildSliceA P H t 1 [(0, x)] = some (.sl H.n 0 1 1, H.push (.row false e [x])) := by
  have hcx : x.cells = [x] := F.cells_cell (by rw [F.cellF_eq]; exact hx)
  simp only [buildSliceA, hu, hn, hz]
  rw [if_pos ⟨by omega, by omega, hc⟩]
  have hr : repL z.cells 1 = z.cells := by simp [repL]
  simp only [hr, fillA, hcx, Nat.zero_mul, Nat.zero_add, List.length_singleton, hc, Nat.le_refl, and_self, if_true, List.take_zero, List.nil_append]
  rw [List.drop_eq_nil_of_le (by omega)]
  simp [hx]
/-- One cell more. -/
theorem append1 {e : TypeId} {z x : AV} {id b bytes m : Nat} {bx bx2 : Bool} {cs : List AV} {e2 : TypeId} (hn : tsz P e = some 1) (hb : tbytes P e = some bytes) (hz : tzero P e = some z) (hc : z.cells.length = 1) (hH : H.get id = .row bx e cs) (hm : cs.length = m) (hH2 : H.get b = .row bx2 e2 [x]) (hs : 2 * (m + 1) * bytes ≤ 2 ^ 47) (hs2 : m + 1 ≤ 2 ^ 47) :
    appendA P H e (.sl id 0 m 1) (.sl b 0 1 1) = some (.sl H.n 0 (m + 1) 1, (H.set id .dead).push (.row false e (cs ++ [x]))) := by
  subst hm
  simp only [appendA, hn, hb, hz, slCells, hH2, hH]
  have h1 : (List.take (1 * 1) (List.drop 0 [x])) = [x] := rfl
  have h2 : (List.take (cs.length * 1) (List.drop 0 cs)) = cs := by simp
  simp only [h1, h2]
  simp [hs, hs2, hc]
theorem get_set_other {id id' : Nat} (o : Ob) (hne : id' ≠ id) (h : id < H.n) : (H.set id o).get id' = H.get id' := Heap.get_set_other o hne h
end

/-! searches -/
theorem any_of_get {α : Type} {p : α → Bool} {l : List α} {i : Nat} {x : α} (h : l[i]? = some x) (hp : p x = true) : l.any p = true := List.any_eq_true.2 ⟨x, List.mem_of_getElem? h, hp⟩
theorem any_none {α : Type} {p : α → Bool} {l : List α} (h : ∀ (j : Nat) (x : α), j < l.length → l[j]? = some x → p x = false) : l.any p = false := by
  rw [List.any_eq_false]
  intro x hx
  obtain ⟨j, hj⟩ := List.getElem?_of_mem hx
  simp [h j x (List.getElem?_eq_some_iff.1 hj).1 hj]
/-- The place of the first that fits, or -1. -/
def IsIdx {α : Type} (p : α → Bool) (l : List α) (v : Int) : Prop :=
  (∃ i x, l[i]? = some x ∧ p x = true ∧ (∀ (j : Nat) (y : α), j < i → l[j]? = some y → p y = false) ∧ v = (i : Nat)) ∨ ((∀ x, x ∈ l → p x = false) ∧ v = -1)
theorem IsIdx.any {α : Type} {p : α → Bool} {l : List α} {v : Int} (h : IsIdx p l v) : decide (v ≥ 0) = l.any p := by
  rcases h with ⟨i, x, h1, h2, _, rfl⟩ | ⟨h1, rfl⟩
  · rw [any_of_get h1 h2]; simp
  · rw [List.any_eq_false.2 (fun x hx => by simp [h1 x hx])]; rfl

/-! strings handed back -/
theorem frzs_strs {H : Heap} : ∀ (l : List (List UInt8)) (k : Nat), l.length + 1 < k → frzs false H k (l.map AV.str) = some (l.map AV.str)
  | [], k, hk => by
    obtain ⟨k, rfl⟩ : ∃ m, k = m + 1 := ⟨k - 1, by omega⟩
    simp [frzs]
  | x :: l, k, hk => by
    simp only [List.length_cons] at hk
    obtain ⟨k, rfl⟩ : ∃ m, k = m + 2 := ⟨k - 2, by omega⟩
    rw [List.map_cons, frzs]
    have h1 : frz false H (k + 1) (.str x) = some (.str x) := by simp [frz]
    simp only [h1, frzs_strs l (k + 1) (by omega)]
theorem chunk1 : ∀ (l : List (List UInt8)), chunk 1 l.length (l.map AV.str) = l.map fun s => [AV.str s]
  | [] => rfl
  | x :: l => by
    simp only [List.length_cons, List.map_cons, chunk, List.take_succ_cons, List.take_zero, List.drop_succ_cons, List.drop_zero, chunk1 l]
theorem frz_strs {H : Heap} {id : Nat} {bx : Bool} {e : TypeId} {l : List (List UInt8)} (h : H.get id = .row bx e (l.map AV.str)) (hl : l.length < 99000) : frz false H 100000 (.sl id 0 l.length 1) = some (.isl false (l.map fun s => [AV.str s])) := by
  rw [show (100000 : Nat) = 99999 + 1 from rfl, frz]
  simp only [h, List.drop_zero, Nat.mul_one]
  have ht : (l.map AV.str).take l.length = l.map AV.str := by rw [List.take_of_length_le (by simp)]
  rw [ht, if_pos ⟨by simp, by omega⟩, frzs_strs l 99999 (by omega)]
  simp only [chunk1]
theorem take_map_succ {α β : Type} {f : α → β} {l : List α} {i : Nat} {x : α} (h : l[i]? = some x) : (l.take i).map f ++ [f x] = (l.take (i + 1)).map f := by
  rw [List.take_add_one, h]; simp
end Go.Ab

/- The abstract machine: drawn regions whose operations leave the heap alone. -/
namespace Go.Ab
set_option linter.unusedVariables false
set_option linter.unusedSectionVars false
variable [HasBase] {P : Program}

/-- Operations that leave the heap alone; calls of functions that 'fs' knows. -/
def stillOp (fs : Nat → Bool) : Op → Bool
  | .move _ | .assign _ | .pick .. | .load .. | .fieldAddr .. | .field .. | .binOp .. | .unOp .. | .indexAddr .. | .index .. | .extract .. | .build .. | .lookup .. => true
  | .call ⟨.builtin .len, _, _⟩ => true
  | .call ⟨.value (.func f), _, _⟩ => fs f
  | _ => false
/-- A caller's functions that leave the heap alone. -/
def KeepsH (call : CallFn) (fs : Nat → Bool) : Prop := ∀ f, fs f = true → ∀ args H r H', call f args H = some (r, H') → H' = H
theorem pureR_none {H : Heap} : (none : Option OR) = pureR H none := rfl
theorem still_op {fs : Nat → Bool} {o : Oper} (hq : stillOp fs o.op = true) (tm : List AV) (H : Heap) : (∃ x, opA P o tm H = pureR H x) ∨ ∃ f args, fs f = true ∧ opA P o tm H = some (.call f args) := by
  unfold opA
  unfold stillOp at hq
  split at hq <;> try (cases hq; done)
  case h_14 args tys he =>
    rw [he]
    dsimp only
    split
    · simp only [builtinA]
      split <;> exact .inl ⟨_, by first | rfl | exact pureR_none⟩
    · exact .inl ⟨_, pureR_none⟩
  case h_15 f args tys he =>
    rw [he]
    dsimp only [ev]
    split
    · exact .inr ⟨_, _, hq, rfl⟩
    · exact .inl ⟨_, pureR_none⟩
  all_goals
    rename_i he
    rw [he]
    dsimp only
    first
      | exact .inl ⟨_, rfl⟩
      | (split <;> first | exact .inl ⟨_, rfl⟩ | exact .inl ⟨_, pureR_none⟩ | (split <;> first | exact .inl ⟨_, rfl⟩ | exact .inl ⟨_, pureR_none⟩))
theorem pureR_kept {H : Heap} {x : Option AV} {v : AV} {H' : Heap} (h : pureR H x = some (.val v H')) : H' = H := by
  cases x with
  | none => cases h
  | some y => cases h; rfl
theorem still_step {fs : Nat → Bool} {call : CallFn} (hc : KeepsH call fs) {ops : Array Oper} {o : Oper} (hq : stillOp fs o.op = true) {tm : List AV} {H : Heap} {tm' : List AV} {H' : Heap} (h : stepA P call ops o tm H = some (.go tm' H')) : H' = H := by
  unfold stepA at h
  split at h
  · rcases still_op (P := P) hq tm H with ⟨x, hx⟩ | ⟨f, args, hf, hx⟩
    · rw [hx] at h
      cases x with
      | none => cases h
      | some y => cases h; rfl
    · rw [hx] at h
      dsimp only at h
      split at h
      · rename_i v H1 hcall
        cases h
        exact hc f hf args H _ _ hcall
      · cases h
      · cases h
  · cases h; rfl

/-- Each operation of a trace leads from its state to the next. -/
theorem trace_steps {call : CallFn} {ops : Array Oper} : ∀ {l : List Oper} {tm : List AV} {H : Heap} {s : List (List AV × Heap)} {tm' : List AV} {H' : Heap},
    runTrace P call ops l tm H = some (s, .go tm' H') →
    s.length = l.length + 1 ∧ s[0]? = some (tm, H) ∧ ∀ (i : Nat) (o : Oper) (p q : List AV × Heap), l[i]? = some o → s[i]? = some p → s[i + 1]? = some q → stepA P call ops o p.1 p.2 = some (.go q.1 q.2)
  | [], tm, H, s, tm', H', h => by
    cases h
    exact ⟨rfl, rfl, fun i o p q h => by simp at h⟩
  | o :: l, tm, H, s, tm', H', h => by
    simp only [runTrace] at h
    cases hs : stepA P call ops o tm H with
    | none => rw [hs] at h; cases h
    | some x =>
      rw [hs] at h
      cases x with
      | pan v H1 => cases h
      | go tm1 H1 =>
        dsimp only at h
        cases ht : runTrace P call ops l tm1 H1 with
        | none => rw [ht] at h; cases h
        | some q =>
          obtain ⟨s1, r1⟩ := q
          rw [ht] at h
          cases h
          obtain ⟨h1, h2, h3⟩ := trace_steps ht
          refine ⟨by simp [h1], rfl, fun i o' p q ho hp hq => ?_⟩
          cases i with
          | zero =>
            simp at ho hp hq
            rw [h2] at hq
            cases hq
            subst ho; subst hp
            exact hs
          | succ i => exact h3 i o' p q (by simpa using ho) (by simpa using hp) (by simpa using hq)
mutual
theorem AV.beq_refl : ∀ a : AV, AV.beq a a = true
  | .undef | .nilp | .nils | .nilm | .nilf | .nili => rfl
  | .bool _ | .int _ _ | .str _ | .ptr _ _ | .sl _ _ _ _ | .map _ => by simp [AV.beq]
  | .eptr _ cs _ => by simp [AV.beq, AV.beqs_refl cs]
  | .isl _ rows => by simp [AV.beq, AV.beqss_refl rows]
  | .fn _ cap => by simp [AV.beq, AV.beqs_refl cap]
  | .ifc _ v => by simp [AV.beq, AV.beq_refl v]
  | .agg cs => by simp [AV.beq, AV.beqs_refl cs]
  | .tup cs => by simp [AV.beq, AV.beqs_refl cs]
theorem AV.beqs_refl : ∀ l : List AV, AV.beqs l l = true
  | [] => rfl
  | x :: xs => by simp [AV.beqs, AV.beq_refl x, AV.beqs_refl xs]
theorem AV.beqss_refl : ∀ l : List (List AV), AV.beqss l l = true
  | [] => rfl
  | x :: xs => by simp [AV.beqss, AV.beqs_refl x, AV.beqss_refl xs]
end
theorem eqO_refl (x : Option (List AV)) : eqO x x = true := by
  cases x with
  | none => rfl
  | some l => exact AV.beqs_refl l

/-- In each pair of a drawn region stands a load and an operation that leaves the heap alone. -/
def stillDraw (P : Program) (fs : Nat → Bool) (ops : Array Oper) : Bool :=
  okDraw ops && match pairsOf P ops.toList with
    | some ps => ps.all fun p => (match ops[p.1]? with
      | some ⟨_, .load _ _, _, _, _, _⟩ => true
      | _ => false) && match ops[p.2]? with
      | some o => stillOp fs o.op
      | none => false
    | none => false
theorem rg_drawQ {fs : Nat → Bool} {call : CallFn} {N n id : Nat} {g : Slots} {H : Heap} {Q : AX → Slots → Heap → Prop} {ops : Array Oper} {L : List SOp} (hc : KeepsH call fs) (hn : stillDraw P fs ops = true) (hL : lite N ops = some L)
    (h : OG P call L g H (fun g' H' => Q .normal g' H') (fun p H' => False)) : RG P call N n (.region id ops true) g H Q := by
  unfold stillDraw at hn
  rw [Bool.and_eq_true] at hn
  obtain ⟨hok, hps⟩ := hn
  unfold RG
  intro tm hl hg
  subst hg
  have hr := runG_ok (P := P) (call := call) ops.toList L tm H hL hl
  unfold OG at h
  rcases h with ⟨g', H', h1, h2⟩ | ⟨p, H', h1, h2⟩
  · rw [h1] at hr
    obtain ⟨tm', h3, h4, h5⟩ := hr
    refine run_draw (tm' := tm') (H' := H') ?_ ⟨h4, h5 ▸ h2⟩
    obtain ⟨s, hs⟩ := F.trace_run P h3
    obtain ⟨t1, t2, t3⟩ := trace_steps hs
    unfold runDraw
    rw [if_pos hok, hs]
    cases hp : pairsOf P ops.toList with
    | none => rw [hp] at hps; cases hps
    | some ps =>
      rw [hp] at hps
      dsimp only
      rw [if_pos]
      rw [List.all_eq_true] at hps ⊢
      rintro ⟨i, j⟩ hij
      have := hps (i, j) hij
      rw [Bool.and_eq_true] at this
      obtain ⟨ho, hoj⟩ := this
      dsimp only at ho hoj
      split at hoj <;> try (cases hoj; done)
      rename_i oj hj1
      split at ho <;> try (cases ho; done)
      rename_i d t a f1 f2 f3 f4 hi1
      have hi : i < ops.size := (Array.getElem?_eq_some_iff.1 hi1).1
      have hj : j < ops.size := (Array.getElem?_eq_some_iff.1 hj1).1
      simp only [Array.length_toList] at t1
      obtain ⟨⟨tmi, Hi⟩, hpi⟩ : ∃ p, s[i]? = some p := ⟨s[i]'(by omega), List.getElem?_eq_getElem (by omega)⟩
      obtain ⟨⟨tmi2, Hi2⟩, hpi2⟩ : ∃ p, s[i + 1]? = some p := ⟨s[i + 1]'(by omega), List.getElem?_eq_getElem (by omega)⟩
      obtain ⟨⟨tmj, Hj⟩, hpj⟩ : ∃ p, s[j]? = some p := ⟨s[j]'(by omega), List.getElem?_eq_getElem (by omega)⟩
      obtain ⟨⟨tmk, Hk⟩, hpk⟩ : ∃ p, s[j + 1]? = some p := ⟨s[j + 1]'(by omega), List.getElem?_eq_getElem (by omega)⟩
      have ek : Hk = Hj := still_step hc hoj (t3 j oj _ _ (by rw [Array.getElem?_toList]; exact hj1) hpj hpk)
      subst ek
      have hst := t3 i _ _ _ (by rw [Array.getElem?_toList]; exact hi1) hpi hpi2
      unfold pairOk
      simp only [hpi, hpj, hpk, hi1]
      split
      · rename_i hw
        unfold stepA at hst
        dsimp only at hst
        rw [hw] at hst
        dsimp only [opA] at hst
        cases hx : ev tmi a with
        | none => rw [hx] at hst; cases hst
        | some x =>
          rw [hx] at hst
          cases hl : loadN P t with
          | none =>
            exfalso
            simp only [loadA, hl] at hst
            split at hst <;> (first | cases hst | skip)
            all_goals simp_all [pureR]
          | some m => exact eqO_refl _
      · rfl
  · exact h2.elim
end Go.Ab

/- The abstract machine: more rules for runs with unknown data: cells of slices, texts. -/
namespace Go.Ab
set_option linter.unusedVariables false
set_option linter.unusedSectionVars false
variable [HasBase] {P : Program}
section
variable {call : CallFn} {g : Slots} {H H' : Heap} {os : List SOp} {K : Slots → Heap → Prop} {KP : AV → Heap → Prop} {d : Nat} {v : AV}
/-- The address of an element of a slice of the heap's own. -/
theorem x_indexAddrS {t : TypeId} {x i : Operand} {id off len e esz n : Nat} {kd : IntKind} (hx : F.evF g x = some (.sl id off len e)) (hi : F.evF g i = some (.int kd (n : Nat))) (hs : F.ixSl P t = some esz) (he : e = esz) (hl : n < len) (k : OG P call os (updG g d (.ptr id (off + n * esz))) H K KP) : OG P call (⟨some d, .indexAddr t x i, none⟩ :: os) g H K KP := by
  refine og_val rfl ?_ k
  show (match F.evF g x, F.evF g i with | some a, some b => pureR H (indexAddrA P t a b) | _, _ => none) = _
  rw [hx, hi]
  unfold F.ixSl at hs
  split at hs <;> try (cases hs; done)
  rename_i el hel
  have h0 : (0 : Int) ≤ (n : Int) := by omega
  have h1 : (n : Int) < (len : Int) := by omega
  simp only [indexAddrA, hel, hs, if_pos h0, Int.toNat_natCast, he, h1, and_self, if_true, pureR]
end
theorem strAdd {t : TypeId} {x y : Operand} {a b : List UInt8} (h : a.length + b.length < 2 ^ 62) : binA P .add t x y (.str a) (.str b) = some (.str (a ++ b)) := by
  simp only [binA, strOp]
  rw [if_pos h]
end Go.Ab
