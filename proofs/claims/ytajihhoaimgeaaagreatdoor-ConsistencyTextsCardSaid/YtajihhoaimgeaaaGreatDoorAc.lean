/- The abstract machine: append as a whole, copy, clear, maps, conversions, what a Builder asks. -/
import Derived.Test.YtajihhoaimgeaaaGreatDoorAb
import Derived.Lib.Builder
import Derived.Lib.UnsafeStr
set_option linter.unusedVariables false
set_option linter.unusedSimpArgs false
set_option linter.unusedSectionVars false
set_option linter.unnecessarySimpa false
namespace Go.Ab
set_option linter.unusedSectionVars false
variable [HasBase]
set_option linter.unusedVariables false
set_option linter.unusedSimpArgs false

variable {P : Program} {E : Env}

theorem Heap.get_push (H : Heap) (o : Ob) : (H.push o).get = fun i => if i = H.n then o else H.get i := by
  funext i
  by_cases h : i = H.n
  · subst h; simp [Heap.get_push_new]
  · rw [if_neg h]
    by_cases h2 : i < H.n
    · exact Heap.get_push_old o h2
    · rw [Heap.get_push_far o (by omega), Heap.get_far (by omega)]
theorem Heap.get_set {H : Heap} {id : Nat} (o : Ob) (hw : H.wf) (h : id < H.n) : (H.set id o).get = fun i => if i = id then o else H.get i := by
  funext i
  by_cases e : i = id
  · subst e; simp [Heap.get_set_same o hw h]
  · rw [if_neg e]; exact Heap.get_set_other o e h

theorem Sat.kill {g : Nat → Ob} (h : Sat E g) (id : Nat) : Sat E (fun i => if i = id then .dead else g i) where
  muLt := h.muLt
  permLt := h.permLt
  permOwn := h.permOwn
  base := h.base
  ob i b o hm := by
    by_cases e : i = id
    · simp only [e, if_true]; trivial
    · simp only [e, if_false]; exact h.ob i b o hm
  inj i i' b o o' h1 h2 l1 l2 := by
    have live_of : ∀ k, ((if k = id then Ob.dead else g k)).live → (g k).live := fun k hk => by
      by_cases e : k = id
      · simp [e, Ob.live] at hk
      · simpa [e] using hk
    exact h.inj i i' b o o' h1 h2 (live_of i l1) (live_of i' l2)

/-- The way of append within the capacity. -/
theorem append_fit {t tx elem esz m sLen sCap : Nat} {d : TypeDesc} {base : Option Addr} {vx : Value} {newV : List Value} (hu : P.underlying t = some (.slice elem)) (htx : P.underlying tx = some d) (hd : ∀ k, d ≠ .int k)
    (hn : tsz P elem = some esz) (hlen : (Builtin.lenOf vx).run P E.w = .ok m E.w) (hneed : sLen + m ≤ sCap) (hnew : (Builtin.firstCells esz m vx).run P E.w = .ok newV.toArray E.w) {w' : World}
    (hst : ∀ a, base = some a → (storeCells (a.add (sLen * esz)) newV 0).run P E.w = .ok () w') (hno : base = none → w' = E.w) :
    ∀ ty, (Builtin.append_ #[t, tx] ty #[.slice base sLen sCap, vx]).run P E.w = .ok (.slice base (sLen + m) sCap) w' := by
  intro ty
  unfold Builtin.append_
  simp only [List.getElem?_toArray, List.getElem?_cons_zero, List.getElem?_cons_succ, Sem.run_bind, run_underlying hu, Result.andThen_ok, run_tsz hn]
  have hzeros : (match d with | .int _ => true | _ => false) = false := by
    cases d <;> first | rfl | exact absurd rfl (hd _)
  simp only [Sem.run_bind, run_underlying htx, Result.andThen_ok, Sem.run_pure, hzeros, Bool.false_eq_true, if_false, hlen]
  rw [if_pos hneed]
  simp only [Bool.not_false, if_true, Sem.run_bind, hnew, Result.andThen_ok]
  cases base with
  | none => rw [hno rfl]; rfl
  | some a => simp only [Sem.run_bind, hst a rfl, Result.andThen_ok, Sem.run_pure]

theorem append_ok {H H' : Heap} {t tx elem : Nat} {d : TypeDesc} {s x y : AV} {vs vx : Value} (h : appendA P H elem s x = some (y, H')) (hu : P.underlying t = some (.slice elem)) (htx : P.underlying tx = some d) (hd : ∀ k, d ≠ .int k)
    (hs : V E s vs) (hx : V E x vx) (hsat : Sat E H.get) (hw : H.wf) (hf : Fresh E H.n H'.n) (ty : TypeId) :
    Comes1 P E H.get H.n (Builtin.append_ #[t, tx] ty #[vs, vx]) y H'.get H'.n ∧ H'.wf := by
  unfold appendA at h
  split at h <;> try (cases h; done)
  rename_i esz bytes z hn hb hz
  split at h
  · cases h
  rename_i m new hsl
  obtain ⟨hlen, hnl, hnc, newV, hfc, hnv⟩ := slCells_ok hsl hx fun id b o _ hm => hsat.ob id b o hm
  cases s with
  | nils =>
    cases hs
    dsimp only at h
    split at h
    · rename_i hm0
      subst hm0
      simp only [Option.some.injEq, Prod.mk.injEq] at h
      obtain ⟨rfl, rfl⟩ := h
      refine ⟨⟨.slice none 0 0, E, ?_, .nils, Ext.refl E H.n, hsat⟩, hw⟩
      exact append_fit hu htx hd hn hlen (by omega) (hfc E.w rfl) (w' := E.w) (fun a ha => by cases ha) (fun _ => rfl) ty
    · rename_i hm0
      split at h <;> try (cases h; done)
      rename_i hc
      obtain ⟨he0, hr1, hr2, hzl⟩ := hc
      simp only [Option.some.injEq, Prod.mk.injEq] at h
      obtain ⟨rfl, rfl⟩ := h
      have hnews := append_grow (base := none) (sLen := 0) (sCap := 0) (old := []) (oldV := []) hu htx hd hn hb hz hzl hlen (by omega) (by simpa using hr1) (by omega) (fun w hw => rfl) hfc (VL.nil E) hnv (by simp) hnl (by simp) hnc H.n ty
      have := hnews.comes hsat (hf H.n (Nat.le_refl _) (by simp))
      rw [Heap.get_push]
      simp only [Nat.zero_add, List.nil_append] at this
      exact ⟨this, Heap.wf_push _ hw⟩
  | sl id off len e =>
    dsimp only at h
    split at h <;> try (cases h; done)
    rename_i bx e0 cs hg
    split at h <;> try (cases h; done)
    rename_i hc
    obtain ⟨rfl, rfl, he0, hol, hr1, hr2, hzl⟩ := hc
    simp only [Option.some.injEq, Prod.mk.injEq] at h
    obtain ⟨rfl, rfl⟩ := h
    have hid : id < H.n := by
      have : (H.get id).live := by rw [hg]; trivial
      exact Heap.get_lt this
    have hfn : E.mu H.n = none := hf H.n (Nat.le_refl _) (by simp)
    have hwf : ((H.set id .dead).push (.row false e0 ((cs.drop off).take (len * e) ++ new))).wf := Heap.wf_push _ (Heap.wf_set _ _ hw)
    refine ⟨?_, hwf⟩
    rw [Heap.get_push, Heap.get_set _ hw hid]
    simp only [Heap.n_set, Heap.n_push]
    cases hs with
    | sl _ _ off' _ cap _ b o e' n' hm hl ho hsh hroom =>
      have hob := hsat.ob id b o hm
      rw [hg] at hob
      obtain ⟨c, lo, hi0, hr⟩ := hob
      have hsh' : e' = e0 ∧ n' = c.size := by
        have := hr.blk
        simp [World.shape?, this] at hsh
        exact ⟨hsh.1.symm, hsh.2.symm⟩
      obtain ⟨rfl, rfl⟩ := hsh'
      have hat := hr.at_.sub off (len * e)
      by_cases hfit : len + m ≤ cap
      · -- in place
        have hoff : len + m = 0 ∨ off' = off := by
          rcases ho with h | h
          · left; omega
          · exact .inr h
        have hone : ∀ v, v ∈ newV → one v = true := fun v hv => by
          obtain ⟨j, hj⟩ := List.mem_iff_getElem?.1 hv
          have hj' : j < new.length := by rw [hnv.1]; exact (List.getElem?_eq_some_iff.1 hj).1
          exact (hnv.2 j new[j] v (by simp [hj']) hj).one (hnc _ (by simp))
        have hroom' : o + off' + (len + m) * e ≤ c.size := by
          have : (len + m) * e ≤ cap * e := Nat.mul_le_mul_right _ hfit
          omega
        rw [Nat.add_mul] at hroom'
        have hnvl : newV.length = m * e := by rw [← hnv.1]; exact hnl
        obtain ⟨w', c', g1, g2, g3, g4, g5, g6⟩ := run_storeList (P := P) b (o + off' + len * e) e' lo hi0 newV 0 E.w c hr.blk hr.free (by omega) hone
        have hshape : w'.shape? b = E.w.shape? b := by simp [World.shape?, g2, hr.blk, g3]
        have hext0 := wrote_ext (n := H.n) g6 hm hid hshape
        let E1 : Env := { mu := fun i => if i = H.n then some (b, o + off') else E.mu i, perm := E.perm, w := w' }
        have hext : Ext E E1 H.n (H.n + 1) := {
          le := by omega
          muOut := fun i hi => by show (if i = H.n then _ else _) = _; rw [if_neg (by omega)]
          muNew := fun i b' o' h1 h2 h3 => by
            have hi : i = H.n := by omega
            subst hi
            have h3' : some (b, o + off') = some (b', o') := by simpa [E1] using h3
            cases h3'
            exact .inr ⟨id, o, hid, hm⟩
          size := hext0.size
          perm := fun _ h => h
          permNew := fun _ h => .inl h
          frame := hext0.frame
          shape := hext0.shape
          os := hext0.os
          tape := hext0.tape
          output := hext0.output }
        have hfr1 : Fresh E H.n (H.n + 1) := fun i h1 h2 => by rw [show i = H.n from by omega]; exact hfn
        have hrun := append_fit (base := some ⟨b, o + off', none⟩) (sCap := cap) hu htx hd hn hlen hfit (hfc E.w rfl) (w' := w') (fun a ha => by
          cases ha
          rw [addr_add]; exact g1) (fun h => by cases h) ty
        refine ⟨_, E1, hrun, ?_, hext, ?_⟩
        · have := V.sl (E := E1) H.n 0 0 (len + m) cap e b (o + off') e' c.size (by simp [E1]) hfit (.inr rfl) (by show w'.shape? b = _; rw [hshape]; exact hsh) (by omega)
          simpa using this
        · have hlive : (H.get id).live := by rw [hg]; trivial
          have s1 := hsat.wrote g6 hm hlive hext0 (ob := .dead) trivial
          refine ⟨fun i b' o' hi => ?_, fun b' hb' => ?_, fun b' hb' => ?_, fun i b' o' hi => ?_, hsat.keepBase hext, fun i i' b' o1 o2 h1 h2 l1 l2 => ?_⟩
          · by_cases ei : i = H.n
            · subst ei
              have : some (b, o + off') = some (b', o') := by simpa [E1] using hi
              cases this
              exact s1.muLt id b o hm
            · have : E.mu i = some (b', o') := by simpa [E1, ei] using hi
              exact s1.muLt i b' o' this
          · exact s1.permLt b' hb'
          · rintro ⟨i, o', hi⟩
            by_cases ei : i = H.n
            · subst ei
              have : some (b, o + off') = some (b', o') := by simpa [E1] using hi
              cases this
              exact s1.permOwn b hb' ⟨id, o, hm⟩
            · have : E.mu i = some (b', o') := by simpa [E1, ei] using hi
              exact s1.permOwn b' hb' ⟨i, o', this⟩
          · by_cases ei : i = H.n
            · subst ei
              have : some (b, o + off') = some (b', o') := by simpa [E1] using hi
              cases this
              simp only [if_true]
              refine ⟨c', lo, hi0, g2, by rw [g3]; exact hr.free, ?_, (fun h => by cases h), fun j y hj => ?_⟩
              · rw [List.length_append, hol, hnl, g3]; omega
              · rw [List.getElem?_append] at hj
                have hcell : (E1.w).cell? ⟨b, o + off' + j, none⟩ = c'[o + off' + j]? := cell_of_cells g2 _
                rw [hcell]
                rw [hol] at hj
                split at hj
                · rename_i hjl
                  obtain ⟨hcc, v, hv1, hv2⟩ := hat j y hj
                  have hoff' : off' = off := hoff.resolve_left (fun h0 => by
                    have : len = 0 := by omega
                    subst this
                    simp at hjl)
                  subst hoff'
                  rw [cell_of_cells hr.blk] at hv1
                  exact ⟨hcc, v, by rw [g5 _ (by omega)]; exact hv1, hv2.mono hext hfr1⟩
                · rename_i hjl
                  have hj2 : j - len * e < newV.length := by rw [← hnv.1]; exact (List.getElem?_eq_some_iff.1 hj).1
                  have hv := hnv.2 _ y newV[j - len * e] hj (by simp [hj2])
                  refine ⟨hnc y (List.mem_of_getElem? hj), newV[j - len * e], ?_, hv.mono hext hfr1⟩
                  have := g4 (j - len * e) newV[j - len * e] (by simp [hj2])
                  rwa [show o + off' + len * e + 0 + (j - len * e) = o + off' + j from by omega] at this
            · have hi' : E.mu i = some (b', o') := by simpa [E1, ei] using hi
              simp only [ei, if_false]
              refine (s1.ob i b' o' hi').mono_of rfl fun x v hv => ?_
              have e2 : Ext { E with w := w' } E1 H.n (H.n + 1) := {
                le := by omega
                muOut := fun k hk => by show (if k = H.n then _ else _) = _; rw [if_neg (by omega)]
                muNew := fun k b' o' h1 h2 h3 => by
                  have hk : k = H.n := by omega
                  subst hk
                  have h3' : some (b, o + off') = some (b', o') := by simpa [E1] using h3
                  cases h3'
                  exact .inr ⟨id, o, hid, hm⟩
                size := Nat.le_refl _
                perm := fun _ h => h
                permNew := fun _ h => .inl h
                frame := fun _ _ _ => rfl
                shape := fun _ _ h => h
                os := rfl
                tape := rfl
                output := rfl }
              exact hv.mono e2 hfr1
          · have nodup : ∀ k bk ok, k ≠ H.n → E.mu k = some (bk, ok) → ((if k = id then Ob.dead else H.get k)).live → bk ≠ b := by
              rintro k bk ok hk hmk hl rfl
              by_cases ek : k = id
              · simp [ek, Ob.live] at hl
              · simp only [ek, if_false] at hl
                exact ek (hsat.inj k id bk ok o hmk hm hl hlive)
            by_cases e1 : i = H.n <;> by_cases e2 : i' = H.n
            · rw [e1, e2]
            · subst e1
              have : some (b, o + off') = some (b', o1) := by simpa [E1] using h1
              cases this
              have h2' : E.mu i' = some (b, o2) := by simpa [E1, e2] using h2
              exact absurd rfl (nodup i' b o2 e2 h2' (by simpa [e2] using l2))
            · subst e2
              have : some (b, o + off') = some (b', o2) := by simpa [E1] using h2
              cases this
              have h1' : E.mu i = some (b, o1) := by simpa [E1, e1] using h1
              exact absurd rfl (nodup i b o1 e1 h1' (by simpa [e1] using l1))
            · have h1' : E.mu i = some (b', o1) := by simpa [E1, e1] using h1
              have h2' : E.mu i' = some (b', o2) := by simpa [E1, e2] using h2
              exact s1.inj i i' b' o1 o2 h1' h2' (by simpa [e1] using l1) (by simpa [e2] using l2)
      · -- it grows
        obtain ⟨oldV, h3, h4⟩ := run_readRowW (P := P) hat hol
        have hold : ∀ w : World, w.heap = E.w.heap → (Builtin.firstCells e len (.slice (some ⟨b, o + off', none⟩) len cap)).run P w = .ok oldV.toArray w := by
          rcases ho with h | h
          · have hl0 : len = 0 := by omega
            subst hl0
            have : oldV = [] := by
              have h5 := h4.1
              rw [hol] at h5
              simpa using h5.symm
            subst this
            intro _ _
            simp [Builtin.firstCells, loadCells, loadCellsFrom]
          · subst h
            exact h3
        have hnews := append_grow (base := some ⟨b, o + off', none⟩) (sLen := len) (sCap := cap) hu htx hd hn hb hz hzl hlen (by omega) hr1 hr2 hold hfc h4 hnv hol hnl hat.isCell hnc H.n ty
        exact hnews.comes (hsat.kill id) hfn
  | _ => cases h
end Go.Ab

/- The abstract machine: clear, maps, conversions that read or make bytes, what a Builder asks. -/
namespace Go.Ab
set_option linter.unusedSectionVars false
variable [HasBase]
set_option linter.unusedVariables false
set_option linter.unusedSimpArgs false

variable {P : Program} {E : Env}

/-! ### maps -/
theorem keyEq_now {kd : TypeDesc} {k a : AV} {b : Bool} {vk va : Value} (h : keyEq kd k a = some b) (hk : V E k vk) (ha : V E a va) : Instr.sameNow kd vk va = some b := by
  unfold keyEq at h
  split at h
  · obtain rfl := hk.int_inv
    obtain rfl := ha.int_inv
    simp only [Instr.sameNow]
    split at h <;> try (cases h; done)
    rename_i hkk
    rw [if_pos hkk]; exact h
  · obtain ⟨s, rfl, hs⟩ := hk.str_inv
    obtain ⟨s', rfl, hs'⟩ := ha.str_inv
    simp only [Instr.sameNow, Option.some.injEq] at h ⊢
    rw [bytes_beq hs hs']; exact h
  · obtain rfl := hk.bool_inv
    obtain rfl := ha.bool_inv
    simpa only [Instr.sameNow] using h
  · cases h

/-- What a look for a key gives. -/
def Found (E : Env) : Option (Nat × AV) → Option (Nat × Value) → Prop
  | none, none => True
  | some (i, x), some (j, v) => i = j ∧ V E x v
  | _, _ => False

/-- Entries, one by one. -/
def Ents (E : Env) (es : List (AV × AV)) (ents : List MapEntry) : Prop := es.length = ents.length ∧ ∀ (j : Nat) p en, es[j]? = some p → ents[j]? = some en → V E p.1 en.key ∧ V E p.2 en.val

theorem Ents.inv {p : AV × AV} {es : List (AV × AV)} {ents : List MapEntry} (h : Ents E (p :: es) ents) : ∃ en rest, ents = en :: rest ∧ V E p.1 en.key ∧ V E p.2 en.val ∧ Ents E es rest := by
  cases ents with
  | nil => simp [Ents] at h
  | cons en rest => exact ⟨en, rest, rfl, (h.2 0 p en rfl rfl).1, (h.2 0 p en rfl rfl).2, by simpa using h.1, fun j p en h1 h2 => h.2 (j + 1) p en (by simpa using h1) (by simpa using h2)⟩
theorem Ents.nil_inv {ents : List MapEntry} (h : Ents E [] ents) : ents = [] := by
  cases ents with
  | nil => rfl
  | cons => simp [Ents] at h
theorem MapAt.ents {b : Nat} {es : List (AV × AV)} {ents : Array MapEntry} {clock : Nat} (h : MapAt E b es ents clock) : Ents E es ents.toList :=
  ⟨by simpa using h.len.symm, fun j p en h1 h2 => h.key j p en h1 (by simpa using h2)⟩

theorem findNow_ok {key : TypeId} {kd : TypeDesc} {k : AV} {vk : Value} (hk : V E k vk) (hna : ∀ n e, kd ≠ .array n e) : ∀ (es : List (AV × AV)) (ents : List MapEntry) (i : Nat) (r : Option (Nat × AV)),
    findA P key kd k es i = some r → Ents E es ents → ∃ rv, Instr.findNow kd vk ents i = some rv ∧ Found E r rv
  | [], ents, i, r, h, he => by
    rw [he.nil_inv]
    simp only [findA, Option.some.injEq] at h; subst h
    exact ⟨none, rfl, trivial⟩
  | (a, v) :: es, ents, i, r, h, he => by
    obtain ⟨en, rest, rfl, h1, h2, h3⟩ := he.inv
    unfold findA at h
    have hcmp : keyCmp P key kd k a = keyEq kd k a := by
      unfold keyCmp
      split
      · exact absurd rfl (hna _ _)
      · rfl
    rw [hcmp] at h
    split at h <;> try (cases h; done)
    · rename_i hb
      simp only [Option.some.injEq] at h; subst h
      exact ⟨some (i, en.val), by simp only [Instr.findNow, keyEq_now hb hk h1], rfl, h2⟩
    · rename_i hb
      obtain ⟨rv, h4, h5⟩ := findNow_ok hk hna es rest (i + 1) r h h3
      exact ⟨rv, by simp only [Instr.findNow, keyEq_now hb hk h1]; exact h4, h5⟩

theorem findAsking_ok {key : TypeId} {n e : Nat} {k : AV} {vk : Value} (hk : V E k vk) : ∀ (es : List (AV × AV)) (ents : List MapEntry) (i : Nat) (r : Option (Nat × AV)),
    findA P key (.array n e) k es i = some r → Ents E es ents → ∃ rv, (Instr.findAsking key vk ents i).run P E.w = .ok rv E.w ∧ Found E r rv
  | [], ents, i, r, h, he => by
    rw [he.nil_inv]
    simp only [findA, Option.some.injEq] at h; subst h
    exact ⟨none, rfl, trivial⟩
  | (a, v) :: es, ents, i, r, h, he => by
    obtain ⟨en, rest, rfl, h1, h2, h3⟩ := he.inv
    unfold findA at h
    have hcmp : ∀ b, keyCmp P key (.array n e) k a = some b → eqA P eqDepth key k a = some b := fun b hb => by
      simp only [keyCmp] at hb
      split at hb
      · exact hb
      · cases hb
    split at h <;> try (cases h; done)
    · rename_i hb
      replace hb := hcmp _ hb
      simp only [Option.some.injEq] at h; subst h
      have := eqA_ok eqDepth Op.maxDepth (by decide) key _ _ _ _ _ hb hk h1
      exact ⟨some (i, en.val), by simp only [Instr.findAsking, Sem.run_bind, Op.equal, this, Result.andThen_ok, if_true]; rfl, rfl, h2⟩
    · rename_i hb
      replace hb := hcmp _ hb
      have := eqA_ok eqDepth Op.maxDepth (by decide) key _ _ _ _ _ hb hk h1
      obtain ⟨rv, h4, h5⟩ := findAsking_ok hk es rest (i + 1) r h h3
      exact ⟨rv, by simp only [Instr.findAsking, Sem.run_bind, Op.equal, this, Result.andThen_ok, Bool.false_eq_true, if_false]; exact h4, h5⟩

theorem find_ok {key : TypeId} {kd : TypeDesc} {k : AV} {vk : Value} {es : List (AV × AV)} {ents : List MapEntry} {r : Option (Nat × AV)} (hu : P.underlying key = some kd) (hk : V E k vk) (h : findA P key kd k es 0 = some r) (he : Ents E es ents) :
    ∃ rv, (Instr.findKey key vk ents).run P E.w = .ok rv E.w ∧ Found E r rv := by
  by_cases ha : ∃ n e, kd = .array n e
  · obtain ⟨n, e, rfl⟩ := ha
    cases es with
    | nil =>
      rw [he.nil_inv]
      simp only [findA, Option.some.injEq] at h; subst h
      exact ⟨none, by simp only [Instr.findKey, Sem.run_bind, run_underlying hu, Result.andThen_ok, Instr.findNow]; rfl, trivial⟩
    | cons p es =>
      obtain ⟨rv, h1, h2⟩ := findAsking_ok hk _ _ 0 r h he
      refine ⟨rv, ?_, h2⟩
      obtain ⟨en, rest, rfl, _, _, _⟩ := he.inv
      simp only [Instr.findKey, Sem.run_bind, run_underlying hu, Result.andThen_ok, Instr.findNow, Instr.sameNow]
      exact h1
  · obtain ⟨rv, h1, h2⟩ := findNow_ok hk (fun n e h => ha ⟨n, e, h⟩) es ents 0 r h he
    exact ⟨rv, by simp only [Instr.findKey, Sem.run_bind, run_underlying hu, Result.andThen_ok, h1]; rfl, h2⟩

theorem checkStr_ok (emp : Bool) (n t : Nat) (s : ByteArray) (hu : P.underlying t = some .string) (w : World) : (Instr.checkKey emp (n + 1) t (.string s)).run P w = .ok () w := by
  simp [Instr.checkKey, Sem.run_bind, run_underlying hu]

theorem checkKey_ok {key : TypeId} {kd : TypeDesc} {k : AV} {vk : Value} (hu : P.underlying key = some kd) (h : keyOk P kd k = true) (hk : V E k vk) (emp : Bool) : (Instr.checkKey emp 10000 key vk).run P E.w = .ok () E.w := by
  have go : ∀ D, (Instr.checkKey emp (D + 2) key vk).run P E.w = .ok () E.w := by
    intro D
    unfold keyOk at h
    split at h
    · obtain rfl := hk.int_inv
      simp [Instr.checkKey, Sem.run_bind, run_underlying hu]
    · obtain ⟨s, rfl, hs⟩ := hk.str_inv
      simp [Instr.checkKey, Sem.run_bind, run_underlying hu]
    · obtain rfl := hk.bool_inv
      simp [Instr.checkKey, Sem.run_bind, run_underlying hu]
    · rename_i n e ks
      obtain ⟨vs, rfl, hvs⟩ := hk.agg_inv
      simp only [Bool.and_eq_true, beq_iff_eq] at h
      obtain ⟨⟨⟨h1, h2⟩, h3⟩, h4⟩ := h
      have he : P.underlying e = some .string := by
        cases hq : P.underlying e with
        | none => simp [hq] at h1
        | some d => cases d <;> simp [hq] at h1 ⊢
      have hnagg : tagg P e = some false := by simp [tagg, he]
      rw [Instr.checkKey.eq_def]
      simp only [Sem.run_bind, run_underlying hu, Result.andThen_ok]
      simp only [Std.Legacy.Range.forIn_eq_forIn_range', Std.Legacy.Range.size, Nat.sub_zero, Nat.add_one_sub_one, Nat.div_one]
      have key : ∀ (l : List Nat), (∀ i, i ∈ l → i < n) → (forIn l PUnit.unit (fun i r => do
          let __do_lift ← sizeOf e
          let __do_lift ← part e vs (i * __do_lift)
          Instr.checkKey emp (D + 1) e __do_lift
          pure (ForInStep.yield PUnit.unit) : Nat → PUnit → Sem (ForInStep PUnit))).run P E.w = .ok PUnit.unit E.w := by
        intro l
        induction l with
        | nil => intro _; rfl
        | cons i l ih =>
          intro hl
          have hi : i < ks.length := by rw [h3]; exact hl i (by simp)
          have hks : ks[i]? = some ks[i] := by simp [hi]
          obtain ⟨v, g1, g2⟩ := part_ok (P := P) (t := e) (off := i * 1) (y := ks[i]) (by simp [partA, hnagg]) hvs
          have hstr : (ks[i]).isStr = true := (List.all_eq_true.1 h4) _ (by simp)
          obtain ⟨s, rfl⟩ : ∃ s, v = .string s := by
            cases hks2 : ks[i] with
            | str l => rw [hks2] at g2; obtain ⟨s, hs, _⟩ := g2.str_inv; exact ⟨s, hs⟩
            | _ => rw [hks2] at hstr; cases hstr
          rw [List.forIn_cons]
          simp only [Sem.run_bind, run_tsz h2, Result.andThen_ok, g1, checkStr_ok emp D e s he, Sem.run_pure]
          exact ih fun j hj => hl j (by simp [hj])
      have := key (List.range' 0 n) (fun i hi => by simpa using hi)
      rw [this]
      rfl
    · cases h
  exact go 9998

theorem lookup_ok {H : Heap} {t : Nat} {m k y : AV} {ok : Bool} {vm vk : Value} (h : lookupA P H t m k ok = some y) (hm : V E m vm) (hk : V E k vk) (hl : ∀ id b o, m = .map id → E.mu id = some (b, o) → ObRel E b o (H.get id)) : Gives P E (Instr.lookup t vm vk ok) y := by
  unfold lookupA at h
  split at h <;> try (cases h; done)
  rename_i key elem hu
  split at h <;> try (cases h; done)
  rename_i kd z hkd hz
  split at h <;> try (cases h; done)
  rename_i hko
  obtain ⟨zv, hz1, hz2⟩ := tzero_spec hz
  have fin : ∀ (es : List (AV × AV)) (ents : List MapEntry), Ents E es ents → (match findA P key kd k es 0 with
      | some (some (_, v)) => some (if ok then .tup [v, .bool true] else v)
      | some none => some (if ok then .tup [z, .bool false] else z)
      | none => none) = some y → ∃ v, V E y v ∧ ((∃ p, (Instr.findKey key vk ents).run P E.w = .ok (some p) E.w ∧ v = if ok then .tuple #[p.2, .bool true] else p.2) ∨ ((Instr.findKey key vk ents).run P E.w = .ok none E.w ∧ v = if ok then .tuple #[zv, .bool false] else zv)) := by
    intro es ents he h
    split at h <;> try (cases h; done)
    · rename_i i v hf
      simp only [Option.some.injEq] at h; subst h
      obtain ⟨rv, g1, g2⟩ := find_ok hkd hk hf he
      cases rv with
      | none => exact g2.elim
      | some p =>
        obtain ⟨j, u⟩ := p
        refine ⟨if ok then .tuple #[u, .bool true] else u, ?_, .inl ⟨(j, u), g1, rfl⟩⟩
        cases ok
        · exact g2.2
        · exact V.mkTup (vs := [u, .bool true]) (.cons g2.2 (.cons (.bool _) (.nil _)))
    · rename_i hf
      simp only [Option.some.injEq] at h; subst h
      obtain ⟨rv, g1, g2⟩ := find_ok hkd hk hf he
      cases rv with
      | some p => exact g2.elim
      | none =>
        refine ⟨if ok then .tuple #[zv, .bool false] else zv, ?_, .inr ⟨g1, rfl⟩⟩
        cases ok
        · exact hz2 E
        · exact V.mkTup (vs := [zv, .bool false]) (.cons (hz2 E) (.cons (.bool _) (.nil _)))
  cases m with
  | nilm =>
    cases hm
    obtain ⟨v, g1, g2⟩ := fin [] [] ⟨rfl, fun j p en h => by simp at h⟩ h
    refine ⟨v, ?_, g1⟩
    rcases g2 with ⟨p, g, rfl⟩ | ⟨g, rfl⟩ <;> simp only [Instr.lookup, Sem.run_bind, run_underlying hu, Result.andThen_ok, Sem.run_pure, checkKey_ok hkd hko hk _, g, hz1]
  | map id =>
    cases hm with
    | map _ b o hmu =>
      have hob := hl id b o rfl hmu
      dsimp only at h
      cases hg : H.get id with
      | dead => rw [hg] at h; cases h
      | row => rw [hg] at h; cases h
      | map es =>
        rw [hg] at h hob
        obtain ⟨ents, clock, hat⟩ := hob
        obtain ⟨v, g1, g2⟩ := fin es ents.toList hat.ents h
        refine ⟨v, ?_, g1⟩
        have hget : (getObj b).run P E.w = .ok (.map ents clock) E.w := by simp [getObj, Sem.run, hat.blk]
        rcases g2 with ⟨p, g, rfl⟩ | ⟨g, rfl⟩ <;> simp only [Instr.lookup, Sem.run_bind, run_underlying hu, Result.andThen_ok, hget, Sem.run_pure, checkKey_ok hkd hko hk _, g, hz1]
  | _ => cases h

theorem wrote_setObj (w : World) (b : Nat) (o : Obj) : Wrote w { w with heap := w.heap.setIfInBounds b o } b :=
  ⟨by simp, fun b' hb => by simp [Array.getElem?_setIfInBounds_ne (Ne.symm hb)], rfl, rfl, rfl⟩

theorem setVal_get {es : List (AV × AV)} {i : Nat} {v : AV} : ∀ (j : Nat) p, (setVal es i v)[j]? = some p → ∃ q, es[j]? = some q ∧ p.1 = q.1 ∧ ((j = i ∧ p.2 = v) ∨ (j ≠ i ∧ p = q)) := by
  induction es generalizing i with
  | nil => intro j p h; simp [setVal] at h
  | cons e es ih =>
    obtain ⟨a, u⟩ := e
    intro j p h
    cases i with
    | zero =>
      simp only [setVal] at h
      cases j with
      | zero => simp at h; subst h; exact ⟨(a, u), rfl, rfl, .inl ⟨rfl, rfl⟩⟩
      | succ j => simp at h; exact ⟨p, by simpa using h, rfl, .inr ⟨by omega, rfl⟩⟩
    | succ i =>
      simp only [setVal] at h
      cases j with
      | zero => simp at h; subst h; exact ⟨(a, u), rfl, rfl, .inr ⟨by omega, rfl⟩⟩
      | succ j =>
        obtain ⟨q, h1, h2, h3⟩ := ih j p (by simpa using h)
        refine ⟨q, by simpa using h1, h2, ?_⟩
        rcases h3 with ⟨h3, h4⟩ | ⟨h3, h4⟩
        · exact .inl ⟨by omega, h4⟩
        · exact .inr ⟨by omega, h4⟩
theorem setVal_len (es : List (AV × AV)) (i : Nat) (v : AV) : (setVal es i v).length = es.length := by
  induction es generalizing i with
  | nil => rfl
  | cons e es ih => cases i <;> simp [setVal, ih]

theorem sameBits_str (n : Nat) (s s' : ByteArray) (h : (s == s') = true) : Instr.sameBits n (.string s) (.string s') = true := by
  cases n <;> simpa [Instr.sameBits] using h

theorem found_in {key : TypeId} {kd : TypeDesc} {k : AV} : ∀ (es : List (AV × AV)) (i j : Nat) (v : AV), findA P key kd k es i = some (some (j, v)) → i ≤ j ∧ ∃ a, es[j - i]? = some (a, v) ∧ keyCmp P key kd k a = some true
  | [], i, j, v, h => by simp [findA] at h
  | (a, u) :: es, i, j, v, h => by
    unfold findA at h
    split at h <;> try (cases h; done)
    · rename_i hb
      simp only [Option.some.injEq, Prod.mk.injEq] at h
      obtain ⟨rfl, rfl⟩ := h
      exact ⟨Nat.le_refl _, a, by simp, hb⟩
    · obtain ⟨h1, a', h2, h3⟩ := found_in es (i + 1) j v h
      refine ⟨by omega, a', ?_, h3⟩
      rw [show j - i = (j - (i + 1)) + 1 from by omega]
      simpa using h2
end Go.Ab

/- The abstract machine: map writes, clear, conversions, what a Builder asks. -/
namespace Go.Ab
set_option linter.unusedSectionVars false
variable [HasBase]
set_option linter.unusedVariables false
set_option linter.unusedSimpArgs false

variable {P : Program} {E : Env}

theorem ents_set {es : List (AV × AV)} {ents : Array MapEntry} {E' : Env} (hmono : ∀ x v, V E x v → V E' x v) (h : Ents E es ents.toList) {i : Nat} {v : AV} {vk vv : Value} (hv : V E v vv) (hk : ∀ a u, es[i]? = some (a, u) → V E a vk) :
    Ents E' (setVal es i v) (ents.modify i fun e => { e with key := vk, val := vv }).toList := by
  refine ⟨by rw [setVal_len, h.1]; simp, fun j p en h1 h2 => ?_⟩
  obtain ⟨q, h3, h4, h5⟩ := setVal_get j p h1
  have h2' : (ents.modify i fun e => { e with key := vk, val := vv })[j]? = some en := by rw [← Array.getElem?_toList]; exact h2
  rw [Array.getElem?_modify] at h2'
  split at h2'
  · rename_i hij; subst hij
    cases he : ents[i]? with
    | none => simp [he] at h2'
    | some e0 =>
      simp only [he, Option.map_some, Option.some.injEq] at h2'
      subst h2'
      rcases h5 with ⟨_, h6⟩ | ⟨h6, _⟩
      · refine ⟨hmono _ _ ?_, by rw [h6]; exact hmono _ _ hv⟩
        obtain ⟨a, u⟩ := q
        rw [h4]; exact hk a u h3
      · exact absurd rfl h6
  · rename_i hij
    rcases h5 with ⟨h6, _⟩ | ⟨_, h6⟩
    · exact absurd h6.symm hij
    · subst h6
      have := h.2 j p en h3 (by simpa using h2')
      exact ⟨hmono _ _ this.1, hmono _ _ this.2⟩

theorem eqArr_str {d elem : Nat} (hu : P.underlying elem = some .string) (ht : tagg P elem = some false) {ks as : List AV} (hk : ks.all AV.isStr = true) (ha : as.all AV.isStr = true) :
    ∀ (m i : Nat), i + m ≤ ks.length → i + m ≤ as.length → eqArr P (eqA P (d + 1)) elem 1 ks as m i = some true → (ks.drop i).take m = (as.drop i).take m
  | 0, i, _, _, _ => by simp
  | m + 1, i, h1, h2, h => by
    have hi1 : i < ks.length := by omega
    have hi2 : i < as.length := by omega
    unfold eqArr at h
    simp only [partA, ht, Nat.mul_one, List.getElem?_eq_getElem hi1, List.getElem?_eq_getElem hi2] at h
    have e1 : (ks[i]).isStr = true := (List.all_eq_true.1 hk) _ (by simp)
    have e2 : (as[i]).isStr = true := (List.all_eq_true.1 ha) _ (by simp)
    cases hk1 : ks[i] with
    | str a =>
      cases ha1 : as[i] with
      | str b =>
        rw [hk1, ha1] at h
        split at h <;> try (cases h; done)
        rename_i hb
        simp only [eqA, hu, Option.some.injEq, beq_iff_eq] at hb
        subst hb
        have ih := eqArr_str hu ht hk ha m (i + 1) (by omega) (by omega) h
        rw [List.drop_eq_getElem_cons hi1, List.drop_eq_getElem_cons hi2, List.take_succ_cons, List.take_succ_cons, hk1, ha1, ih]
      | _ => rw [ha1] at e2; cases e2
    | _ => rw [hk1] at e1; cases e1

theorem keyOk_arr {n e : Nat} {k : AV} (h : keyOk P (.array n e) k = true) : ∃ ks, k = .agg ks ∧ P.underlying e = some .string ∧ tsz P e = some 1 ∧ ks.length = n ∧ ks.all AV.isStr = true := by
  cases k <;> simp only [keyOk] at h <;> try (cases h; done)
  rename_i ks
  simp only [Bool.and_eq_true, beq_iff_eq] at h
  obtain ⟨⟨⟨h1, h2⟩, h3⟩, h4⟩ := h
  refine ⟨ks, rfl, ?_, h2, h3, h4⟩
  cases hq : P.underlying e with
  | none => simp [hq] at h1
  | some d => cases d <;> simp [hq] at h1 ⊢

theorem eqA_arr (d : Nat) {key n e m : Nat} {xs ys : List AV} (hu : P.underlying key = some (.array n e)) (he : tsz P e = some m) : eqA P (d + 1) key (.agg xs) (.agg ys) = eqArr P (eqA P d) e m xs ys n 0 := by
  simp only [eqA, hu, he]

theorem keyCmp_true {key : TypeId} {kd : TypeDesc} {k a : AV} (hu : P.underlying key = some kd) (hk : keyOk P kd k = true) (h : keyCmp P key kd k a = some true) : a = k := by
  unfold keyCmp at h
  split at h
  · rename_i n e
    split at h <;> try (cases h; done)
    rename_i ha
    obtain ⟨ks, rfl, he, h2, h3, h4⟩ := keyOk_arr hk
    obtain ⟨as, rfl, _, _, h5, h6⟩ := keyOk_arr ha
    have ht : tagg P e = some false := by simp [tagg, he]
    have : eqArr P (eqA P 59) e 1 ks as n 0 = some true := (eqA_arr 59 hu h2).symm.trans h
    have := eqArr_str (d := 58) he ht h4 h6 n 0 (by omega) (by omega) this
    simp only [List.drop_zero] at this
    rw [← h3, List.take_length] at this
    rw [h3, ← h5, List.take_length] at this
    rw [this]
  · unfold keyEq at h
    split at h <;> try (cases h; done)
    · split at h <;> try (cases h; done)
      rename_i hkk
      simp only [Option.some.injEq, beq_iff_eq] at h
      rw [hkk, h]
    · simp only [Option.some.injEq, beq_iff_eq] at h; rw [h]
    · simp only [Option.some.injEq, beq_iff_eq] at h; rw [h]

theorem keyStays (old new : Value) (w : World) : ∃ r w0, (Instr.keyThatStays old new).run P w = .ok r w0 ∧ (r = old ∨ r = new) ∧ w0.heap = w.heap ∧ w0.os = w.os ∧ w0.tape = w.tape ∧ w0.output = w.output := by
  unfold Instr.keyThatStays
  split
  · exact ⟨new, w, rfl, .inr rfl, rfl, rfl, rfl, rfl⟩
  · simp only [Sem.run_bind]
    have : ∃ n, (choose (.extern "map.whichKeyStays" 2)).run P w = .ok n { w with drawn := w.drawn + 1 } := ⟨_, by simp [choose, Sem.run, Question.forced]; rfl⟩
    obtain ⟨n, hn⟩ := this
    rw [hn]
    simp only [Result.andThen_ok, Sem.run_pure]
    refine ⟨_, _, rfl, ?_, rfl, rfl, rfl, rfl⟩
    split
    · exact .inr rfl
    · exact .inl rfl

theorem mapUpdate_ok {H H' : Heap} {t : Nat} {m k x : AV} {vm vk vx : Value} (h : mapUpdateA P H t m k x = some H') (hm : V E m vm) (hk : V E k vk) (hx : V E x vx) (hs : Sat E H.get) (hw : H.wf) :
    ∃ E', (Instr.mapUpdate t vm vk vx).run P E.w = .ok () E'.w ∧ Ext E E' H.n H'.n ∧ Sat E' H'.get ∧ H'.wf := by
  unfold mapUpdateA at h
  split at h <;> try (cases h; done)
  rename_i key elem id hu
  split at h <;> try (cases h; done)
  rename_i kd es hkd hg
  split at h <;> try (cases h; done)
  rename_i hc
  obtain ⟨hko, hxc⟩ := hc
  have hid : id < H.n := by
    have : (H.get id).live := by rw [hg]; trivial
    exact Heap.get_lt this
  have hlive : (H.get id).live := by rw [hg]; trivial
  cases hm with
  | map _ b o hmu =>
    have hob := hs.ob id b o hmu
    rw [hg] at hob
    obtain ⟨ents, clock, hat⟩ := hob
    have hb : b < E.w.heap.size := hs.muLt id b o hmu
    have hget : (getObj b).run P E.w = .ok (.map ents clock) E.w := by simp [getObj, Sem.run, hat.blk]
    have set_ok : ∀ (w0 : World) (o' : Obj), w0.heap = E.w.heap → (setObj b o').run P w0 = .ok () { w0 with heap := w0.heap.setIfInBounds b o' } := fun w0 o' h0 => by
      simp [setObj, Sem.run, h0, hat.blk]
    have fin : ∀ (w0 : World) (ents' : Array MapEntry) (clock' : Nat) (es' : List (AV × AV)), w0.heap = E.w.heap → w0.os = E.w.os → w0.tape = E.w.tape → w0.output = E.w.output →
        (∀ E' : Env, (∀ x v, V E x v → V E' x v) → Ents E' es' ents'.toList) →
        ∃ E' : Env, E'.w = { w0 with heap := w0.heap.setIfInBounds b (.map ents' clock') } ∧ Ext E E' H.n H.n ∧ Sat E' (H.set id (.map es')).get := by
      intro w0 ents' clock' es' h1 h2 h3 h4 h5
      let w' : World := { w0 with heap := w0.heap.setIfInBounds b (.map ents' clock') }
      have hwr : Wrote E.w w' b := ⟨by simp [w', h1], fun b' hb' => by simp [w', h1, Array.getElem?_setIfInBounds_ne (Ne.symm hb')], h2, h3, h4⟩
      have hblk : w'.heap[b]? = some (.map ents' clock') := by
        show (w0.heap.setIfInBounds b _)[b]? = _
        rw [Array.getElem?_setIfInBounds_self_of_lt (by rw [h1]; exact hb)]
      have hext := wrote_ext (n := H.n) hwr hmu hid (by simp [World.shape?, hblk, hat.blk])
      have hmono : ∀ x v, V E x v → V { E with w := w' } x v := fun x v hv => hv.mono hext (fresh_refl E H.n)
      refine ⟨{ E with w := w' }, rfl, hext, ?_⟩
      rw [Heap.get_set _ hw hid]
      have he := h5 _ hmono
      exact hs.wrote hwr hmu hlive hext (ob := .map es') ⟨ents', clock', hblk, by simpa using he.1.symm, fun j p en h1 h2 => he.2 j p en h1 (by simpa using h2)⟩
    split at h <;> try (cases h; done)
    · rename_i i v0 hf
      simp only [Option.some.injEq] at h; subst h
      obtain ⟨rv, g1, g2⟩ := find_ok hkd hk hf hat.ents
      cases rv with
      | none => exact g2.elim
      | some p =>
        obtain ⟨j, u⟩ := p
        obtain ⟨rfl, _⟩ := g2
        obtain ⟨_, a, ha1, ha2⟩ := found_in es 0 i v0 hf
        rw [Nat.sub_zero] at ha1
        have hak := keyCmp_true hkd hko ha2
        subst hak
        obtain ⟨r, w0, k1, k2, k3, k4, k5, k6⟩ := keyStays (P := P) (((ents[i]?).map (·.key)).getD vk) vk E.w
        have hlt : i < ents.size := by rw [hat.len]; exact (List.getElem?_eq_some_iff.1 ha1).1
        have hei : ents[i]? = some ents[i] := by simp [hlt]
        have hr : V E a r := by
          rcases k2 with rfl | rfl
          · rw [hei]; exact (hat.key i (a, v0) ents[i] ha1 hei).1
          · exact hk
        obtain ⟨E', e1, e2, e3⟩ := fin w0 (ents.modify i fun e => { e with key := r, val := vx }) clock (setVal es i x) k3 k4 k5 k6 fun E' hmono => ents_set hmono hat.ents hx fun a' u' h' => by
          rw [ha1] at h'; cases h'; exact hr
        refine ⟨E', ?_, e2, e3, Heap.wf_set _ _ hw⟩
        simp only [Instr.mapUpdate, Sem.run_bind, run_underlying hu, Result.andThen_ok, hget, checkKey_ok hkd hko hk, g1, k1]
        rw [set_ok w0 _ k3, e1]
    · rename_i hf
      simp only [Option.some.injEq] at h; subst h
      obtain ⟨rv, g1, g2⟩ := find_ok hkd hk hf hat.ents
      cases rv with
      | some p => exact g2.elim
      | none =>
        obtain ⟨E', e1, e2, e3⟩ := fin E.w (ents.push { key := vk, val := vx, born := clock }) (clock + 1) (es ++ [(k, x)]) rfl rfl rfl rfl fun E' hmono => by
          refine ⟨by simp [hat.ents.1], fun j p en h1 h2 => ?_⟩
          have hl : es.length = ents.toList.length := hat.ents.1
          rw [Array.toList_push, List.getElem?_append] at h2
          rw [List.getElem?_append] at h1
          by_cases hj : j < es.length
          · rw [if_pos hj] at h1
            rw [if_pos (by omega)] at h2
            have := hat.ents.2 j p en h1 h2
            exact ⟨hmono _ _ this.1, hmono _ _ this.2⟩
          · rw [if_neg hj] at h1
            rw [if_neg (by omega)] at h2
            have hj0 : j - es.length = 0 := by
              have := (List.getElem?_eq_some_iff.1 h1).1
              simp at this; omega
            rw [hj0] at h1
            rw [show j - ents.toList.length = 0 from by omega] at h2
            simp at h1 h2
            subst h1; subst h2
            exact ⟨hmono _ _ hk, hmono _ _ hx⟩
        refine ⟨E', ?_, e2, e3, Heap.wf_set _ _ hw⟩
        simp only [Instr.mapUpdate, Sem.run_bind, run_underlying hu, Result.andThen_ok, hget, checkKey_ok hkd hko hk, g1]
        rw [set_ok E.w _ rfl, e1]

theorem mapUpdate_n {H H' : Heap} {t : Nat} {m k x : AV} (h : mapUpdateA P H t m k x = some H') : H'.n = H.n := by
  unfold mapUpdateA at h
  split at h <;> try (cases h; done)
  split at h <;> try (cases h; done)
  split at h <;> try (cases h; done)
  split at h <;> (try (cases h; done)) <;> (simp only [Option.some.injEq] at h; subst h; rfl)
end Go.Ab

/- The abstract machine: clear, conversions, what a Builder asks. -/
namespace Go.Ab
set_option linter.unusedSectionVars false
variable [HasBase]
set_option linter.unusedVariables false
set_option linter.unusedSimpArgs false

variable {P : Program} {E : Env}

theorem bytes_ints : ∀ {cs : List AV} {l : List UInt8} {vs : List Value}, bytesOfInts cs = some l → VL E cs vs → ∃ ns : List Int, vs = ns.map (Value.int .u8) ∧ l = ns.map fun n => UInt8.ofNat n.toNat
  | [], l, vs, h, hv => by
    simp only [bytesOfInts, Option.some.injEq] at h; subst h
    rw [hv.inv_nil]; exact ⟨[], rfl, rfl⟩
  | c :: cs, l, vs, h, hv => by
    unfold bytesOfInts at h
    split at h <;> try (cases h; done)
    · rename_i heq; cases heq
    · rename_i n xs heq
      cases heq
      split at h <;> try (cases h; done)
      rename_i r hr
      simp only [Option.some.injEq] at h; subst h
      obtain ⟨v, us, rfl, h1, h2⟩ := hv.inv
      obtain rfl := h1.int_inv
      obtain ⟨ns, rfl, rfl⟩ := bytes_ints hr h2
      exact ⟨n :: ns, rfl, rfl⟩

theorem bytesToString_ok {x : AV} {v : Value} {m : Nat} {cs : List AV} {s : List UInt8} {H : Heap} (h : slCells H 1 x = some (m, cs)) (hb : bytesOfInts cs = some s) (hx : V E x v) (hnst : ∀ l, x ≠ .str l) (hs : ∀ id b o, (∃ off len, x = .sl id off len 1) → E.mu id = some (b, o) → ObRel E b o (H.get id)) :
    Gives P E (Conv.bytesToString v) (.str s) := by
  obtain ⟨h1, h2, h3, vs, h4, h5⟩ := slCells_ok (P := P) h hx hs
  obtain ⟨ns, rfl, rfl⟩ := bytes_ints hb h5
  have loop : ∀ (ns : List Int) (acc : ByteArray) (w : World), (forIn (ns.map (Value.int .u8)) acc (fun c r => do
      match c with
      | .int .u8 n => pure (ForInStep.yield (r.push (UInt8.ofNat n.toNat)))
      | _ => stuck "bytesToString: byte expected") : Sem ByteArray).run P w = .ok ⟨acc.data ++ (ns.map fun n => UInt8.ofNat n.toNat).toArray⟩ w := by
    intro ns
    induction ns with
    | nil => intro acc w; simp
    | cons n ns ih =>
      intro acc w
      rw [List.map_cons, List.forIn_cons]
      simp only [Sem.run_bind, Sem.run_pure, Result.andThen_ok]
      rw [ih]
      congr 2
      apply Array.ext'
      simp [ByteArray.push]
  have h4' := h4 E.w rfl
  cases v with
  | slice a len cap =>
    cases a with
    | none =>
      cases hx
      simp only [slCells, Option.some.injEq, Prod.mk.injEq] at h
      obtain ⟨rfl, rfl⟩ := h
      simp only [bytesOfInts, Option.some.injEq] at hb
      exact ⟨.string .empty, rfl, .str _ _ (by rw [← hb]; rfl)⟩
    | some a =>
      have hlen : len = m := by simpa [Builtin.lenOf] using h1
      subst hlen
      refine ⟨.string ⟨(ns.map fun n => UInt8.ofNat n.toNat).toArray⟩, ?_, .str _ _ (by simp)⟩
      simp only [Builtin.firstCells, Nat.mul_one] at h4'
      simp only [Conv.bytesToString, Sem.run_bind, h4', Result.andThen_ok]
      rw [← Array.forIn_toList]
      have := loop ns .empty E.w
      rw [show ((ns.map (Value.int .u8)).toArray).toList = ns.map (Value.int .u8) from by simp]
      erw [this]
      simp only [Result.andThen_ok, Sem.run_pure]
      congr 3
      apply Array.ext'
      simp
  | string l => cases hx; exact absurd rfl (hnst _)
  | _ => simp [Builtin.lenOf, stuck, Sem.run] at h1

theorem modify_push {α : Type} (a : Array α) (x : α) (f : α → α) : (a.push x).modify a.size f = a.push (f x) := by
  apply Array.ext
  · simp
  · intro i h1 h2
    simp only [Array.size_modify, Array.size_push] at h1
    rw [Array.getElem_modify]
    by_cases h : a.size = i
    · subst h; simp
    · rw [if_neg h]
      rw [Array.getElem_push_lt (by omega), Array.getElem_push_lt (by omega)]

theorem stringToBytes_ok {s : List UInt8} {e : TypeId} {v : Value} (hx : V E (.str s) v) (n : Nat) : ∃ b, v = .string b ∧ News P E n (Conv.stringToBytes e b) (.sl n 0 s.length 1) (.row false e (s.map fun b => .int .u8 b.toNat)) := by
  obtain ⟨b, rfl, hb⟩ := hx.str_inv
  refine ⟨b, rfl, ?_⟩
  have hsz : b.size = s.length := by rw [← hb, Array.length_toList]; rfl
  obtain ⟨cap, hcap, hch⟩ := run_choose_cap (P := P) b.size 0 e E.w
  have hvl : VL E (s.map fun b => AV.int .u8 b.toNat) (s.map fun b => Value.int .u8 b.toNat) := by
    refine ⟨by simp, fun j x v h1 h2 => ?_⟩
    rw [List.getElem?_map] at h1 h2
    cases hj : s[j]? with
    | none => simp [hj] at h1
    | some u => simp [hj] at h1 h2; subst h1; subst h2; exact .int _ _
  let c : Array Value := ((s.map fun (b : UInt8) => Value.int .u8 b.toNat) ++ List.replicate (cap - s.length) (Value.int .u8 0)).toArray
  have hc : c.size = cap := by simp [c]; omega
  have hdata : (b.data.map fun (b : UInt8) => Value.int .u8 b.toNat) ++ Array.replicate (cap - b.size) (Value.int .u8 0) = c := by
    apply Array.ext'
    simp [c, hb, hsz]
  refine ⟨.slice (some ⟨E.w.heap.size, 0, none⟩) s.length cap, .cells c e (c.size, c.size + 1), { E.w with drawn := E.w.drawn + 1 }, ?_, rfl, rfl, rfl, rfl, ?_⟩
  · simp only [Conv.stringToBytes, Sem.run_bind, hch, Result.andThen_ok, hdata, newRow_run]
    let w1 : World := ({ E.w with drawn := E.w.drawn + 1 } : World).alloc (.cells c e)
    have hshape : w1.shape? E.w.heap.size = some (e, c.size) := by
      have : w1.heap[E.w.heap.size]? = some (.cells c e) := alloc'_new ({ E.w with drawn := E.w.drawn + 1 } : World) (.cells c e)
      simp [World.shape?, this]
    have hmark : (markStringish ⟨E.w.heap.size, 0, none⟩).run P w1 = .ok () (({ E.w with drawn := E.w.drawn + 1 } : World).alloc (.cells c e (c.size, c.size + 1))) := by
      simp only [markStringish, shape, Sem.run_bind, Sem.run, hshape, Result.andThen_ok, freeze]
      congr 1
      unfold World.freeze
      rw [if_neg (by decide)]
      show World.mk _ _ _ _ _ = World.mk _ _ _ _ _
      congr 1
      exact modify_push E.w.heap (.cells c e) _
    have hmark' := hmark
    simp only [w1] at hmark'
    rw [hmark']
    simp only [Result.andThen_ok, Sem.run_pure, hsz]
  · rintro _ rfl hf
    refine ⟨V.newSl (by omega) (by rw [hc]; omega), ?_⟩
    have h0 := newRow_ok (E := { mu := E.mu, perm := E.perm, w := { E.w with drawn := E.w.drawn + 1 } }) (n := n) (bx := false) (e := e) hf (hvl.mono (drew_ext (E := E) (w0 := { E.w with drawn := E.w.drawn + 1 }) n rfl rfl rfl rfl) (fresh_refl E n)) (by simp [AV.isCell]) (List.replicate (cap - s.length) (.int .u8 0)) (fun h => by cases h)
    obtain ⟨c0, lo, hi, hr⟩ := h0
    refine ⟨c, c.size, c.size + 1, alloc'_new _ _, fun i hi => by omega, ?_, (fun h => by cases h), fun j x hj => ?_⟩
    · simp [c]
    · rw [List.getElem?_map] at hj
      cases hs : s[j]? with
      | none => simp [hs] at hj
      | some u =>
        simp [hs] at hj; subst hj
        have hjl := (List.getElem?_eq_some_iff.1 hs).1
        refine ⟨rfl, .int .u8 u.toNat, ?_, .int _ _⟩
        show (World.alloc _ _).cell? _ = _
        rw [show (⟨E.w.heap.size, 0 + j, none⟩ : Addr) = ⟨E.w.heap.size, j, none⟩ from by simp, cell_of_cells (alloc'_new _ _)]
        simp only [c, List.getElem?_toArray]
        rw [List.getElem?_append_left (by simpa using hjl)]
        simp [hs]

theorem freeze_at (w : World) (b o n : Nat) (hn : n ≠ 0) {c : Array Value} {e : TypeId} {fr : Nat × Nat} (h : w.heap[b]? = some (.cells c e fr)) :
    Wrote w (w.freeze ⟨b, o, none⟩ n) b ∧ (w.freeze ⟨b, o, none⟩ n).shape? b = w.shape? b := by
  unfold World.freeze
  rw [if_neg hn]
  refine ⟨⟨by simp, fun b' hb' => ?_, rfl, rfl, rfl⟩, ?_⟩
  · simp only [Array.getElem?_modify]
    rw [if_neg (Ne.symm hb')]
  · simp only [World.shape?, Array.getElem?_modify, if_true, h, Option.map_some]

theorem Sat.row {g : Nat → Ob} (hs : Sat E g) {id b o : Nat} {bx : Bool} {e : TypeId} {cs : List AV} (hm : E.mu id = some (b, o)) (hg : g id = .row bx e cs) : ∃ c lo hi, RowAt E b o bx e cs c lo hi := by
  have := hs.ob id b o hm
  rw [hg] at this
  exact this

theorem unsafeString_ok {g : Nat → Ob} {pt it ty e id off : Nat} {bx : Bool} {cs : List AV} {n : Int} {k : IntKind} {s : List UInt8} {vp : Value} (hs : Sat E g) (hp : P.underlying pt = some (.pointer e)) (hg : g id = .row bx e cs) (hc : P.cellsOf e = 1) (hn : 0 < n) (hn2 : n < 2 ^ 62)
    (hlen : ((cs.drop off).take n.toNat).length = n.toNat) (hb : bytesOfInts ((cs.drop off).take n.toNat) = some s) (hx : V E (.ptr id off) vp) (N : Nat) (hid : id < N) :
    ∃ v E', (Builtin.unsafeString_ #[pt, it] ty #[vp, .int k n]).run P E.w = .ok v E'.w ∧ V E' (.str s) v ∧ Ext E E' N N ∧ Sat E' (fun i => if i = id then .dead else g i) := by
  have e62 : (2 : Int) ^ 62 = 4611686018427387904 := by decide
  rw [e62] at hn2
  cases hx with
  | ptr _ _ b o hm =>
    obtain ⟨c, lo, hi, hr⟩ := hs.row hm hg
    have hat := hr.at_.sub off n.toNat
    obtain ⟨vs, hv1, hv2⟩ := hat.vals
    have hvl := hv1.1
    rw [hlen] at hvl
    obtain ⟨ns, rfl, rfl⟩ := bytes_ints hb hv1
    -- the numbers are bytes: each cell is read as a byte
    have hshape : E.w.shape? b = some (e, c.size) := by simp [World.shape?, hr.blk]
    have hroom := hr.room
    have hcount : off + n.toNat ≤ cs.length := by
      simp only [List.length_take, List.length_drop] at hlen; omega
    have hlies : liesAt P P.depth e (c.size / P.cellsOf e) (o + off) e n.toNat = true := by
      have hd : P.depth = (2 * (P.types.size + Made.depth) + 1) + 1 := rfl
      rw [hd]
      simp only [liesAt, Bool.or_eq_true]
      left
      rw [hd]
      have : o + off + n.toNat ≤ c.size := by omega
      simp [rowAt, hc, sameLayout, this, Nat.mod_one]
    have hload : ∀ (ns : List Int) (k : Nat) (acc : ByteArray), (∀ (j : Nat) v, (ns.map (Value.int .u8))[j]? = some v → E.w.cell? ⟨b, k + j, none⟩ = some v) →
        (loadBytes ⟨b, k, none⟩ acc ns.length).run P E.w = .ok ⟨acc.data ++ (ns.map fun n => UInt8.ofNat n.toNat).toArray⟩ E.w := by
      intro ns
      induction ns with
      | nil => intro k acc _; simp [loadBytes]
      | cons m ns ih =>
        intro k acc h
        have h0 := h 0 (.int .u8 m) rfl
        simp only [List.length_cons, loadBytes, Sem.run_bind, run_load (by simpa using h0), Result.andThen_ok, addr_add]
        rw [ih (k + 1) _ fun j v hj => by
          have := h (j + 1) v (by simpa using hj)
          rwa [show k + (j + 1) = k + 1 + j from by omega] at this]
        congr 2
        apply Array.ext'
        simp [ByteArray.push]
    have hnsl : ns.length = n.toNat := by simpa using hvl.symm
    have hl := hload ns (o + off) .empty hv2
    rw [hnsl] at hl
    obtain ⟨hwr, hsh⟩ := freeze_at E.w b (o + off) n.toNat (by omega) hr.blk
    have hext := wrote_ext (n := N) hwr hm hid hsh
    have hlive : (g id).live := by rw [hg]; trivial
    refine ⟨.string ⟨(ns.map fun n => UInt8.ofNat n.toNat).toArray⟩, { E with w := E.w.freeze ⟨b, o + off, none⟩ n.toNat }, ?_, .str _ _ (by simp), hext, hs.wrote hwr hm hlive hext trivial⟩
    have hmax : IntKind.i64.max = 9223372036854775807 := by decide
    have h1 : ¬ n < 0 := by omega
    have h2 : ¬ (9223372036854775807 : Int) < n := by omega
    have h3 : ¬ n = 0 := by omega
    show (Bind.bind (asInt (.int k n)) _ : Sem Value).run P E.w = _
    simp [asInt, asIntOf, hmax, h1, h2, h3, variablesAt, hshape, elemOf, run_underlying hp, hlies, hl]
end Go.Ab

/- The abstract machine: the rest of the operations. -/
namespace Go.Ab
set_option linter.unusedSectionVars false
variable [HasBase]
set_option linter.unusedVariables false
set_option linter.unusedSimpArgs false

variable {P : Program} {E : Env}

theorem sliceAt_other {t : Nat} {d : TypeDesc} (hu : P.underlying t = some d) (hd : ∀ n e, d ≠ .array n e) (x : Value) (lo hi mx : Option Value) (w : World) : (Instr.sliceAt t x lo hi mx).run P w = (Instr.slice t x lo hi mx).run P w := by
  unfold Instr.sliceAt
  simp only [Sem.run_bind, run_underlying hu, Result.andThen_ok]

theorem sliceArr_ok {t n elem e id off : Nat} {g : Nat → Ob} {bx : Bool} {e0 : TypeId} {cs : List AV} {lo hi : Option AV} {vlo vhi : Option Value} {y : AV} {v : Value} (hu : P.underlying t = some (.array n elem)) (he : tsz P elem = some e)
    (hsat : Sat E g) (hg : g id = .row bx e0 cs) (hroom : off + n * e ≤ cs.length) (h : sliceA e (.sl id off n e) lo hi = some y) (hx : V E (.ptr id off) v) (vl : OptV E lo vlo) (vh : OptV E hi vhi) :
    Gives P E (Instr.sliceAt t v vlo vhi none) y := by
  unfold sliceA at h
  dsimp only at h
  split at h <;> try (cases h; done)
  rename_i l h' hl hh
  split at h <;> try (cases h; done)
  rename_i hc
  obtain ⟨_, hle⟩ := hc
  simp only [Option.some.injEq] at h; subst h
  have hhl := hiA_le hh
  cases hx with
  | ptr _ _ b o hm =>
    obtain ⟨c, lo', hi', hr⟩ := hsat.row hm hg
    have hs : E.w.shape? b = some (e0, c.size) := by simp [World.shape?, hr.blk]
    have hrm := hr.room
    refine ⟨.slice (some (if n = l then ⟨b, o + off, none⟩ else ⟨b, o + off + l * e, none⟩)) (h' - l) (n - l), ?_, ?_⟩
    · simp only [Instr.sliceAt, Instr.sureAddr, Sem.run_bind, run_underlying hu, Result.andThen_ok, Sem.run_pure, bounds_ok hl hh vl vh (Nat.le_refl n) hle, run_tsz he, addr_add]
    · by_cases hcl : n = l
      · rw [if_pos hcl]
        refine .sl id (off + l * e) off (h' - l) (n - l) e b o e0 c.size hm (by omega) (.inl (by omega)) hs ?_
        have : (n - l) * e = 0 := by rw [show n - l = 0 from by omega, Nat.zero_mul]
        omega
      · rw [if_neg hcl]
        have := V.sl (E := E) id (off + l * e) (off + l * e) (h' - l) (n - l) e b o e0 c.size hm (by omega) (.inr rfl) hs (by
          have : l * e + (n - l) * e = n * e := by rw [← Nat.add_mul]; congr 1; omega
          omega)
        rwa [show o + (off + l * e) = o + off + l * e from by omega] at this

/-- Conversions that ask nothing of memory. -/
theorem convQuiet_ok {H H' : Heap} {src dst : TypeId} {x y : AV} {v : Value} {d1 d2 : TypeDesc} (h1 : P.underlying src = some d1) (h2 : P.underlying dst = some d2) (hq : (∃ k, d1 = .int k) ∨ (d1 = .string ∧ d2 = .string)) (h : convA P H src dst x = some (y, H')) (hx : V E x v) :
    H' = H ∧ Gives P E (convert src dst v) y := by
  unfold convA at h
  rw [h1, h2] at h
  split at h <;> try (cases h; done)
  · rename_i k1 k2 n e1 e2
    cases e1; cases e2
    simp only [Option.some.injEq, Prod.mk.injEq] at h
    obtain ⟨rfl, rfl⟩ := h
    obtain rfl := hx.int_inv
    exact ⟨rfl, .int _ (IntKind.wrap _ _), by simp [convert, run_underlying h1, run_underlying h2, Conv.intToInt], .int _ _⟩
  · rename_i s e1 e2
    cases e1; cases e2
    simp only [Option.some.injEq, Prod.mk.injEq] at h
    obtain ⟨rfl, rfl⟩ := h
    obtain ⟨b, rfl, hb⟩ := hx.str_inv
    exact ⟨rfl, .string b, by simp [convert, run_underlying h1, run_underlying h2, Conv.intToInt], .str _ _ hb⟩
  all_goals
    rename_i e1 e2
    cases e1
    rcases hq with ⟨k, hk⟩ | ⟨hk, hk2⟩ <;> first
      | (cases hk; done)
      | (subst hk2; cases e2)

theorem div_one_of {a b : Nat} (h : 0 < b) : a / b * b ≤ a := Nat.div_mul_le_self a b

theorem conv_ok {H H' : Heap} {src dst : TypeId} {x y : AV} {v : Value} (h : convA P H src dst x = some (y, H')) (hx : V E x v) (hs : Sat E H.get) (hw : H.wf) (hf : Fresh E H.n H'.n) :
    Comes1 P E H.get H.n (convert src dst v) y H'.get H'.n ∧ H'.wf ∧ H.n ≤ H'.n := by
  cases h1 : P.underlying src with
  | none => simp [convA, h1] at h
  | some d1 =>
  cases h2 : P.underlying dst with
  | none => simp [convA, h1, h2] at h
  | some d2 =>
  have h0 := h
  unfold convA at h
  rw [h1, h2] at h
  split at h <;> try (cases h; done)
  · rename_i e1 e2; cases e1
    obtain ⟨rfl, hg⟩ := convQuiet_ok h1 h2 (.inl ⟨_, rfl⟩) h0 hx
    exact ⟨.of_gives hg hs, hw, Nat.le_refl _⟩
  · rename_i e1 e2; cases e1; cases e2
    obtain ⟨rfl, hg⟩ := convQuiet_ok h1 h2 (.inr ⟨rfl, rfl⟩) h0 hx
    exact ⟨.of_gives hg hs, hw, Nat.le_refl _⟩
  · rename_i x _ _ x0 e e1 e2; cases e1; cases e2
    split at h <;> try (cases h; done)
    rename_i m cs he hcs
    cases hb : bytesOfInts cs with
    | none => simp [hb] at h
    | some s =>
      simp only [hb, Option.map_some, Option.some.injEq, Prod.mk.injEq] at h
      obtain ⟨rfl, rfl⟩ := h
      by_cases hstr : ∃ l, x = .str l
      · obtain ⟨l, rfl⟩ := hstr
        obtain ⟨b, rfl, hbl⟩ := hx.str_inv
        refine ⟨.of_gives ⟨.string b, by simp [convert, run_underlying h1, run_underlying h2, Conv.intToInt], .str _ _ ?_⟩ hs, hw, Nat.le_refl _⟩
        rw [hbl]
        simp only [slCells, if_true, Option.some.injEq, Prod.mk.injEq] at hcs
        obtain ⟨_, rfl⟩ := hcs
        have : ∀ l : List UInt8, bytesOfInts (l.map fun b => .int .u8 b.toNat) = some l := by
          intro l
          induction l with
          | nil => rfl
          | cons c l ih => simp [bytesOfInts, ih]
        rw [this] at hb
        exact Option.some.inj hb
      · have hg := bytesToString_ok (P := P) hcs hb hx (fun l hl => hstr ⟨l, hl⟩) fun id b o _ hm => hs.ob id b o hm
        obtain ⟨u, hu1, hu2⟩ := hg
        refine ⟨.of_gives ⟨u, ?_, hu2⟩ hs, hw, Nat.le_refl _⟩
        have hvs : (∀ n k, v ≠ .int k n) ∧ ∀ s, v ≠ .string s := by
          constructor
          · rintro n k rfl
            simp [Conv.bytesToString, Builtin.firstCells, stuck, Sem.run] at hu1
          · rintro s rfl
            cases hx
            exact hstr ⟨_, rfl⟩
        cases v <;> first
          | exact absurd rfl (hvs.1 _ _)
          | exact absurd rfl (hvs.2 _)
          | (simp only [convert, Sem.run_bind, run_underlying h1, run_underlying h2, run_underlying he, Result.andThen_ok]; exact hu1)
  · rename_i e s e1 e2; cases e1; cases e2
    split at h <;> try (cases h; done)
    rename_i he
    simp only [Option.some.injEq, Prod.mk.injEq] at h
    obtain ⟨rfl, rfl⟩ := h
    obtain ⟨b, rfl, hn⟩ := stringToBytes_ok (P := P) (e := e) hx H.n
    have hc := hn.comes hs (hf H.n (Nat.le_refl _) (by simp))
    rw [← Heap.get_push] at hc
    refine ⟨?_, Heap.wf_push _ hw, by simp⟩
    obtain ⟨u, E', hr, h3, h4, h5⟩ := hc
    refine ⟨u, E', ?_, h3, h4, h5⟩
    simp only [convert, Sem.run_bind, run_underlying h1, run_underlying h2, run_underlying he, Result.andThen_ok]
    exact hr
  · rename_i t id off e1 e2; cases e1; cases e2
    split at h <;> try (cases h; done)
    rename_i bx e cs n hg hn
    split at h <;> try (cases h; done)
    rename_i hc
    simp only [Option.some.injEq, Prod.mk.injEq] at h
    obtain ⟨rfl, rfl⟩ := h
    cases hx with
    | ptr _ _ b o hm =>
      obtain ⟨c, lo, hi, hr⟩ := hs.row hm hg
      have hsh : E.w.shape? b = some (e, c.size) := by simp [World.shape?, hr.blk]
      obtain ⟨j, hj1, hj2⟩ := tsz_spec hn
      have hroom := hr.room
      refine ⟨.of_gives ⟨.pointer (some ⟨b, o + off, none⟩), ?_, .ptr _ _ b o hm⟩ hs, hw, Nat.le_refl _⟩
      have hoff : ¬ (c.size ≤ o + off) := by omega
      simp [convert, run_underlying h1, run_underlying h2, Conv.unsafePointer, Conv.seenAt, viewAt, cellsIn, hsh, sizeOf, typeInfo, hj1, hj2, hc.1, hoff]
  · rename_i u id off e1 e2; cases e1; cases e2
    split at h <;> try (cases h; done)
    rename_i e cs n hg hn
    split at h <;> try (cases h; done)
    rename_i hc
    simp only [Option.some.injEq, Prod.mk.injEq] at h
    obtain ⟨rfl, rfl⟩ := h
    cases hx with
    | ptr _ _ b o hm =>
      obtain ⟨c, lo, hi, hr⟩ := hs.row hm hg
      have hsh : E.w.shape? b = some (e, c.size) := by simp [World.shape?, hr.blk]
      obtain ⟨j, hj1, hj2⟩ := tsz_spec hn
      obtain ⟨ho, hcs⟩ := hr.exact rfl
      subst ho
      refine ⟨.of_gives ⟨.pointer (some ⟨b, 0 + off, none⟩), ?_, .ptr _ _ b 0 hm⟩ hs, hw, Nat.le_refl _⟩
      have hl := hc.2.2
      rw [← hcs] at hl
      simp [convert, run_underlying h1, run_underlying h2, Conv.unsafePointer, Conv.seenAt, viewAt, hsh, variablesAt, hl, sizeOf, typeInfo, hj1]

theorem V.slice_len {x : AV} {a : Option Addr} {l c : Nat} (h : V E x (.slice a l c)) : (∃ id off e, x = .sl id off l e) ∨ (∃ t rows, x = .isl t rows ∧ rows.length = l) ∨ (x = .nils ∧ l = 0) := by
  cases h with
  | sl id off off' _ _ e => exact .inl ⟨id, off, e, rfl⟩
  | islE t => exact .inr (.inl ⟨t, [], rfl, rfl⟩)
  | isl t rows => exact .inr (.inl ⟨t, rows, rfl, rfl⟩)
  | nils => exact .inr (.inr ⟨rfl, rfl⟩)

theorem len_ok {H : Heap} {t : Nat} {x y : AV} {v : Value} (h : lenA P H t x = some y) (hx : V E x v) (hl : ∀ id b o k e, P.underlying t = some (.map k e) → x = .map id → E.mu id = some (b, o) → ObRel E b o (H.get id)) (rest : List Value) (ts : Array TypeId) (ht : ts[0]? = some t) (ty : TypeId) : Gives P E (Builtin.len_ ts ty (v :: rest).toArray) y := by
  unfold lenA at h
  have hv0 : (v :: rest).toArray[0]? = some v := by simp
  split at h <;> try (cases h; done)
  · rename_i s hu
    simp only [Option.some.injEq] at h; subst h
    obtain ⟨b, rfl, hb⟩ := hx.str_inv
    refine ⟨goInt b.size, (by unfold Builtin.len_; simp only [ht, hv0, Sem.run_bind, run_underlying hu, Result.andThen_ok]; rfl), ?_⟩
    have : b.size = s.length := by rw [← hb, Array.length_toList]; rfl
    rw [this]; exact .int _ _
  · rename_i n _ hu
    simp only [Option.some.injEq] at h; subst h
    exact ⟨goInt n, (by unfold Builtin.len_; simp only [ht, hv0, Sem.run_bind, run_underlying hu, Result.andThen_ok]; rfl), .int _ _⟩
  · rename_i id off len e hu
    simp only [Option.some.injEq] at h; subst h
    cases hx
    exact ⟨goInt len, (by unfold Builtin.len_; simp only [ht, hv0, Sem.run_bind, run_underlying hu, Result.andThen_ok]; rfl), .int _ _⟩
  · rename_i tmp rows hu
    simp only [Option.some.injEq] at h; subst h
    cases hx with
    | islE => exact ⟨goInt (0 : Nat), (by unfold Builtin.len_; simp only [ht, hv0, Sem.run_bind, run_underlying hu, Result.andThen_ok]; rfl), .int _ _⟩
    | isl => exact ⟨goInt rows.length, (by unfold Builtin.len_; simp only [ht, hv0, Sem.run_bind, run_underlying hu, Result.andThen_ok]; rfl), .int _ _⟩
  · rename_i hu
    simp only [Option.some.injEq] at h; subst h
    cases hx
    exact ⟨goInt (0 : Nat), (by unfold Builtin.len_; simp only [ht, hv0, Sem.run_bind, run_underlying hu, Result.andThen_ok]; rfl), .int _ _⟩
  · rename_i hu
    simp only [Option.some.injEq] at h; subst h
    cases hx
    exact ⟨goInt (0 : Nat), (by unfold Builtin.len_; simp only [ht, hv0, Sem.run_bind, run_underlying hu, Result.andThen_ok]; rfl), .int _ _⟩
  · rename_i id hu
    split at h <;> try (cases h; done)
    rename_i es hg
    simp only [Option.some.injEq] at h; subst h
    cases hx with
    | map _ b o hm =>
      have hob := hl id b o _ _ hu rfl hm
      rw [hg] at hob
      obtain ⟨ents, clock, hr⟩ := hob
      have hget : (getObj b).run P E.w = .ok (.map ents clock) E.w := by simp [getObj, Sem.run, hr.blk]
      refine ⟨goInt ents.size, ?_, ?_⟩
      · unfold Builtin.len_
        simp only [ht, hv0, Sem.run_bind, run_underlying hu, Result.andThen_ok, hget]
        rfl
      · rw [hr.len]; exact .int _ _

theorem sliceData_ok {x y : AV} {v : Value} {H : Heap} (h : (match [x] with
    | [.nils] => pureR H (some .nilp)
    | [.sl id off len _] => if 0 < len then pureR H (some (.ptr id off)) else none
    | _ => none) = some (.val y H)) (hx : V E x v) (ts : Array TypeId) (ty : TypeId) : Gives P E (Builtin.unsafeSliceData_ ts ty #[v]) y := by
  split at h <;> try (cases h; done)
  · rename_i heq
    cases heq
    simp only [pureR, Option.some.injEq, OR.val.injEq] at h
    obtain ⟨rfl, _⟩ := h
    cases hx
    exact ⟨.pointer none, rfl, .nilp⟩
  · rename_i id off len e heq
    cases heq
    split at h <;> try (cases h; done)
    rename_i hl
    simp only [pureR, Option.some.injEq, OR.val.injEq] at h
    obtain ⟨rfl, _⟩ := h
    cases hx with
    | sl _ _ off' _ cap _ b o e2 n hm hlc ho hs hroom =>
      have hc : cap ≠ 0 := by omega
      have : off' = off := by rcases ho with h | h <;> omega
      subst this
      refine ⟨.pointer (some ⟨b, o + off', none⟩), ?_, .ptr _ _ b o hm⟩
      show (ite _ _ _ : Sem Value).run P E.w = _
      rw [if_pos hc]
      rfl

theorem clear_ok {H : Heap} {t elem id off len esz : Nat} {bx : Bool} {e0 : TypeId} {cs : List AV} {z : AV} {v : Value} (hu : P.underlying t = some (.slice elem)) (hg : H.get id = .row bx e0 cs) (hz : tzero P elem = some z) (h1 : z.cells.length = esz) (h2 : 0 < esz) (h3 : off + len * esz ≤ cs.length) (h4 : z.cells.all AV.isCell = true)
    (hl : 0 < len) (hx : V E (.sl id off len esz) v) (hs : Sat E H.get) (hw : H.wf) (ty : TypeId) :
    Comes1 P E H.get H.n (Builtin.clear_ #[t] ty #[v]) (.tup []) (H.set id (.row bx e0 (cs.take off ++ repL z.cells len ++ cs.drop (off + len * esz)))).get H.n ∧ (H.set id (.row bx e0 (cs.take off ++ repL z.cells len ++ cs.drop (off + len * esz)))).wf := by
  obtain ⟨zv, hzv, hzV⟩ := tzero_spec hz
  have hlt : id < H.n := by
    have : (H.get id).live := by rw [hg]; trivial
    exact Heap.get_lt this
  cases hx with
  | sl _ _ off' _ cap _ b o e2 n hm hlc ho hsh hroom =>
    have : off' = off := by rcases ho with h | h <;> omega
    subst this
    obtain ⟨c, lo, hi, hr⟩ := hs.row hm hg
    have hzl := (hzV E).cells
    have hrep := hzl.rep (by omega) len (n := len * zv.cells.size) (by
      have := hzl.1; simp only [Array.length_toList] at this; rw [this])
    have hlen : (repL z.cells len).length = len * esz := by rw [repL_length, h1]
    obtain ⟨w', r1, r2, r3, r4⟩ := run_writeRow (P := P) hr hm hlt hrep (fun x hx => by
      have hall : ∀ m, x ∈ repL z.cells m → x ∈ z.cells := by
        intro m
        induction m with
        | zero => intro hx; cases hx
        | succ m ih =>
          intro hx
          rcases List.mem_append.1 hx with h | h
          · exact h
          · exact ih h
      exact List.all_eq_true.1 h4 x (hall len hx)) (by rw [hlen]; exact h3)
    have hlive : (H.get id).live := by rw [hg]; trivial
    have hsat := hs.wrote r3 hm hlive r2 (by rw [hlen] at r4; exact r4)
    rw [← Heap.get_set _ hw hlt] at hsat
    refine ⟨⟨.tuple #[], { E with w := w' }, ?_, ?_, r2, hsat⟩, Heap.wf_set _ _ hw⟩
    · show (Bind.bind (underlying t) _ : Sem Value).run P E.w = _
      obtain ⟨m, rfl⟩ : ∃ m, len = m + 1 := ⟨len - 1, by omega⟩
      simp only [Sem.run_bind, run_underlying hu, Result.andThen_ok]
      show (Bind.bind (zeroValue elem) _ : Sem Value).run P E.w = _
      simp only [Sem.run_bind, hzv, Result.andThen_ok]
      simp only [Builtin.zeroCells]
      show ((storeCells ⟨b, o + off', none⟩ _).run P E.w).andThen _ = _
      erw [r1]
      rfl
    · exact V.mkTup (VL.nil _)
end Go.Ab

/- The abstract machine: each operation is as the machine's. -/
namespace Go.Ab
set_option linter.unusedSectionVars false
variable [HasBase]
set_option linter.unusedVariables false
set_option linter.unusedSimpArgs false

variable {P : Program}

def Done (P : Program) (E : Env) (o : Oper) (a : Act) (v : AV) (E' : Env) : Prop :=
  ∃ nx, (execOp a.eval o).run P E.w = .ok nx E'.w ∧ ((∃ val, nx = .value val ∧ V E' v val) ∨ (nx = .skip ∧ v = .undef))

theorem Done.of_gives {E : Env} {o : Oper} {a : Act} {v : AV} {s : Sem Value} (he : execOp a.eval o = (do pure (.value (← s)))) (h : Gives P E s v) : Done P E o a v E := by
  obtain ⟨val, h1, h2⟩ := h
  exact ⟨.value val, by rw [he]; simp only [Sem.run_bind, h1, Result.andThen_ok, Sem.run_pure], .inl ⟨val, rfl, h2⟩⟩

theorem Done.of_run {E E' : Env} {o : Oper} {a : Act} {v : AV} {s : Sem Value} {val : Value} (he : execOp a.eval o = (do pure (.value (← s)))) (h : s.run P E.w = .ok val E'.w) (hv : V E' v val) : Done P E o a v E' :=
  ⟨.value val, by rw [he]; simp only [Sem.run_bind, h, Result.andThen_ok, Sem.run_pure], .inl ⟨val, rfl, hv⟩⟩

theorem Done.of_unit {E E' : Env} {o : Oper} {a : Act} {s : Sem Unit} (he : execOp a.eval o = (do s; pure .skip)) (h : s.run P E.w = .ok () E'.w) : Done P E o a .undef E' :=
  ⟨.skip, by rw [he]; simp only [Sem.run_bind, h, Result.andThen_ok, Sem.run_pure], .inr ⟨rfl, rfl⟩⟩

theorem pureR_val {H : Heap} {x : Option AV} {r : OR} (h : pureR H x = some r) : ∃ v, x = some v ∧ r = .val v H := by
  cases x with
  | none => cases h
  | some v => cases h; exact ⟨v, rfl, rfl⟩
theorem heapR_val {H : Option Heap} {r : OR} (h : heapR H = some r) : ∃ H', H = some H' ∧ r = .val .undef H' := by
  cases H with
  | none => cases h
  | some v => cases h; exact ⟨v, rfl, rfl⟩
theorem bothR_val {x : Option (AV × Heap)} {r : OR} (h : bothR x = some r) : ∃ v H', x = some (v, H') ∧ r = .val v H' := by
  cases x with
  | none => cases h
  | some v => obtain ⟨v, H⟩ := v; cases h; exact ⟨v, H, rfl, rfl⟩

theorem evO_spec {E : Env} {tm : List AV} {a : Act} (ht : TM E tm a.tmps) {x : Option Operand} {v : Option AV} (h : evO tm x = some v) : OptV E v (x.map a.eval) := by
  cases x with
  | none => simp only [evO, Option.some.injEq] at h; subst h; trivial
  | some x =>
    simp only [evO] at h
    cases hx : ev tm x with
    | none => simp [hx] at h
    | some y =>
      simp only [hx, Option.map_some, Option.some.injEq] at h; subst h
      exact ev_spec ht hx

theorem parts_spec {E : Env} {tm : List AV} {a : Act} (ht : TM E tm a.tmps) {xs : Array (Nat × Operand)} {ps : List (Nat × AV)} (h : evParts tm xs.toList = some ps) :
    ∃ pv : List (Nat × Value), xs.map (fun (i, x) => (i, a.eval x)) = pv.toArray ∧ ps.length = pv.length ∧ ∀ (j : Nat) p q, ps[j]? = some p → pv[j]? = some q → p.1 = q.1 ∧ V E p.2 q.2 := by
  obtain ⟨h1, h2⟩ := evParts_spec ht h
  refine ⟨xs.toList.map fun (i, x) => (i, a.eval x), ?_, h1, h2⟩
  apply Array.ext'
  rw [Array.toList_map]

/-- Nothing is asked of memory. -/
theorem quiet_op {o : Oper} {tm : List AV} {H : Heap} {r : OR} (hq : clsOf P o.op = .quiet) (h : opA P o tm H = some r) :
    ∃ v, r = .val v H ∧ ∀ (E : Env) (a : Act), TM E tm a.tmps → Done P E o a v E := by
  obtain ⟨dst, op, type, pos, after, guard⟩ := o
  cases op <;> simp only [opA] at h <;> simp only [clsOf] at hq <;> try (first | (cases hq; done) | (cases h; done))
  case move x =>
    obtain ⟨v, hv, rfl⟩ := pureR_val h
    exact ⟨v, rfl, fun E a ht => ⟨.value (a.eval x), rfl, .inl ⟨_, rfl, ev_spec ht hv⟩⟩⟩
  case assign x =>
    obtain ⟨v, hv, rfl⟩ := pureR_val h
    exact ⟨v, rfl, fun E a ht => ⟨.value (a.eval x), rfl, .inl ⟨_, rfl, ev_spec ht hv⟩⟩⟩
  case pick c x y =>
    split at h <;> try (cases h; done)
    · rename_i hc
      obtain ⟨v, hv, rfl⟩ := pureR_val h
      refine ⟨v, rfl, fun E a ht => ⟨.value (a.eval x), ?_, .inl ⟨_, rfl, ev_spec ht hv⟩⟩⟩
      have := (ev_spec ht hc).bool_inv
      simp [execOp, asBool, this]
    · rename_i hc
      obtain ⟨v, hv, rfl⟩ := pureR_val h
      refine ⟨v, rfl, fun E a ht => ⟨.value (a.eval y), ?_, .inl ⟨_, rfl, ev_spec ht hv⟩⟩⟩
      have := (ev_spec ht hc).bool_inv
      simp [execOp, asBool, this]
  case build t parts =>
    split at h <;> try (cases h; done)
    rename_i ps hps
    obtain ⟨v, hv, rfl⟩ := pureR_val h
    refine ⟨v, rfl, fun E a ht => ?_⟩
    obtain ⟨pv, h1, h2, h3⟩ := parts_spec ht hps
    exact .of_gives (s := Instr.build t (parts.map fun (i, x) => (i, a.eval x))) rfl (by rw [h1]; exact build_ok hv h2 h3)
  case nilCheck x =>
    split at h <;> try (cases h; done)
    · rename_i id off hx
      simp only [Option.some.injEq] at h; subst h
      refine ⟨_, rfl, fun E a ht => ?_⟩
      have hV := ev_spec ht hx
      refine ⟨.value (a.eval x), ?_, .inl ⟨_, rfl, hV⟩⟩
      simp only [execOp]
      generalize a.eval x = u at hV ⊢
      cases hV
      rfl
    · rename_i hx
      simp only [Option.some.injEq] at h; subst h
      refine ⟨_, rfl, fun E a ht => ?_⟩
      have hV := ev_spec ht hx
      refine ⟨.value (a.eval x), ?_, .inl ⟨_, rfl, hV⟩⟩
      simp only [execOp]
      generalize a.eval x = u at hV ⊢
      cases hV
      rfl
    · rename_i hx
      simp only [Option.some.injEq] at h; subst h
      refine ⟨_, rfl, fun E a ht => ?_⟩
      have hV := ev_spec ht hx
      refine ⟨.value (a.eval x), ?_, .inl ⟨_, rfl, hV⟩⟩
      simp only [execOp]
      generalize a.eval x = u at hV ⊢
      cases hV
      rfl
  case binOp op t x y ty =>
    split at h <;> try (cases h; done)
    rename_i va vb hx hy
    obtain ⟨v, hv, rfl⟩ := pureR_val h
    exact ⟨v, rfl, fun E a ht => .of_gives rfl (bin_ok hv (ev_spec ht hx) (ev_spec ht hy))⟩
  case unOp op ty x =>
    split at h <;> try (cases h; done)
    rename_i va hx
    obtain ⟨v, hv, rfl⟩ := pureR_val h
    exact ⟨v, rfl, fun E a ht => .of_gives rfl (un_ok hv (ev_spec ht hx))⟩
  case convert src dst' x =>
    split at h <;> try (cases h; done)
    rename_i va hx
    obtain ⟨v, H', hv, rfl⟩ := bothR_val h
    cases h1 : P.underlying src with
    | none => simp [convA, h1] at hv
    | some d1 =>
    cases h2 : P.underlying dst' with
    | none => simp [convA, h1, h2] at hv
    | some d2 =>
      rw [h1, h2] at hq
      have hq' : (∃ k, d1 = .int k) ∨ (d1 = .string ∧ d2 = .string) := by
        split at hq <;> try (cases hq; done)
        · rename_i e; cases e; exact .inl ⟨_, rfl⟩
        · rename_i e1 e2; cases e1; cases e2; exact .inr ⟨rfl, rfl⟩
      have hH : H' = H := by
        obtain ⟨s, rfl⟩ | ⟨rfl, rfl⟩ := hq'
        · unfold convA at hv
          rw [h1, h2] at hv
          split at hv <;> first
            | (cases hv; done)
            | (rename_i e1 e2; cases e1; done)
            | (simp only [Option.some.injEq, Prod.mk.injEq] at hv; exact hv.2.symm)
        · unfold convA at hv
          rw [h1, h2] at hv
          split at hv <;> first
            | (cases hv; done)
            | (rename_i e1 e2; cases e1; done)
            | (rename_i e1 e2; cases e2; done)
            | (simp only [Option.some.injEq, Prod.mk.injEq] at hv; exact hv.2.symm)
      subst hH
      exact ⟨v, rfl, fun E a ht => .of_gives rfl (convQuiet_ok h1 h2 hq' hv (ev_spec ht hx)).2⟩
  case makeInterface t x =>
    split at h <;> try (cases h; done)
    rename_i v d hni hx hu
    simp only [Option.some.injEq] at h; subst h
    refine ⟨_, rfl, fun E a ht => .of_gives (s := Instr.makeInterface t (a.eval x)) rfl ⟨.iface t (a.eval x), ?_, .ifc t _ _ (ev_spec ht hx)⟩⟩
    simp only [Instr.makeInterface, Sem.run_bind, run_underlying hu, Result.andThen_ok]
    cases d <;> first
      | rfl
      | exact absurd rfl (hni _)
  case makeFunc f first captured =>
    cases f <;> try (cases h; done)
    rename_i f
    dsimp only at h
    split at h <;> try (cases h; done)
    rename_i hf
    split at h <;> try (cases h; done)
    rename_i vs hvs
    simp only [Option.some.injEq] at h; subst h
    refine ⟨_, rfl, fun E a ht => .of_gives (s := Instr.makeFunc (.func f) (first.map a.eval) (captured.map a.eval)) rfl ⟨.func (.func f) (first.map a.eval) (captured.map a.eval), rfl, ?_⟩⟩
    have : first = #[] := Array.eq_empty_of_size_eq_zero hf
    subst this
    have hV := V.mkFn (f := f) (evs_spec ht hvs)
    have e : (captured.toList.map a.eval).toArray = captured.map a.eval := by
      apply Array.ext'
      rw [Array.toList_map]
    rw [e] at hV
    rw [Array.map_empty]
    exact hV
  case slice t x lo hi mx =>
    cases mx with
    | some m => cases h
    | none =>
    dsimp only at h
    split at h <;> try (cases h; done)
    · rename_i s lo' hi' hu hx hlo hhi
      obtain ⟨v, hv, rfl⟩ := pureR_val h
      refine ⟨v, rfl, fun E a ht => .of_gives (s := Instr.sliceAt t (a.eval x) (lo.map a.eval) (hi.map a.eval) none) rfl ?_⟩
      obtain ⟨u, h1, h2⟩ := sliceStr_ok hu hv (ev_spec ht hx) (evO_spec ht hlo) (evO_spec ht hhi)
      exact ⟨u, by rw [sliceAt_other hu (by intro _ _ e; cases e)]; exact h1, h2⟩
    · rename_i elem x' lo' hi' hu hx hlo hhi
      split at h <;> try (cases h; done)
      rename_i e he
      obtain ⟨v, hv, rfl⟩ := pureR_val h
      refine ⟨v, rfl, fun E a ht => .of_gives (s := Instr.sliceAt t (a.eval x) (lo.map a.eval) (hi.map a.eval) none) rfl ?_⟩
      obtain ⟨u, h1, h2⟩ := slice_ok hu he hv (ev_spec ht hx) (evO_spec ht hlo) (evO_spec ht hhi)
      exact ⟨u, by rw [sliceAt_other hu (by intro _ _ e; cases e)]; exact h1, h2⟩
    · rename_i hu _ _ _
      rw [hu] at hq
      cases hq
  case fieldAddr s x f =>
    split at h <;> try (cases h; done)
    rename_i va hx
    obtain ⟨v, hv, rfl⟩ := pureR_val h
    exact ⟨v, rfl, fun E a ht => .of_gives rfl (fieldAddr_ok hv (ev_spec ht hx))⟩
  case field s x f =>
    split at h <;> try (cases h; done)
    rename_i va hx
    obtain ⟨v, hv, rfl⟩ := pureR_val h
    exact ⟨v, rfl, fun E a ht => .of_gives rfl (field_ok hv (ev_spec ht hx))⟩
  case indexAddr t x i =>
    split at h <;> try (cases h; done)
    rename_i va vb hx hy
    obtain ⟨v, hv, rfl⟩ := pureR_val h
    exact ⟨v, rfl, fun E a ht => .of_gives rfl (indexAddr_ok hv (ev_spec ht hx) (ev_spec ht hy))⟩
  case index t x i =>
    split at h <;> try (cases h; done)
    rename_i va vb hx hy
    obtain ⟨v, hv, rfl⟩ := pureR_val h
    exact ⟨v, rfl, fun E a ht => .of_gives rfl (index_ok hv (ev_spec ht hx) (ev_spec ht hy))⟩
  case typeAssert x xt as ok =>
    split at h <;> try (cases h; done)
    rename_i va hx
    obtain ⟨v, hv, rfl⟩ := pureR_val h
    exact ⟨v, rfl, fun E a ht => .of_gives rfl (assert_ok hv (ev_spec ht hx))⟩
  case extract x i =>
    split at h <;> try (cases h; done)
    rename_i vs hx
    split at h <;> try (cases h; done)
    rename_i v hv
    simp only [Option.some.injEq] at h; subst h
    refine ⟨v, rfl, fun E a ht => .of_gives (s := Instr.extract (a.eval x) i) rfl ?_⟩
    obtain ⟨us, hus, hl⟩ := (ev_spec ht hx).tup_inv
    obtain ⟨u, hu1, hu2⟩ := hl.get hv
    refine ⟨u, ?_, hu2⟩
    have : us[i]? = some u := by simpa using hu1
    simp [hus, Instr.extract, this]
  case call c =>
    split at h <;> try (cases h; done)
    rename_i args hargs
    obtain ⟨callee, cargs, cts⟩ := c
    cases callee with
    | value f => cases hq
    | invoke r m => cases h
    | builtin b =>
      dsimp only at h hargs
      have hex : ∀ a : Act, execOp a.eval ⟨dst, .call ⟨.builtin b, cargs, cts⟩, type, pos, after, guard⟩ = builtin b cts type (cargs.map fun | .const _ => true | _ => false) (cargs.map a.eval) := fun a => rfl
      have hvl : ∀ (E : Env) (a : Act), TM E tm a.tmps → VL E args (cargs.map a.eval).toList := fun E a ht => by
        have := evs_spec ht hargs
        simpa using this
      cases b <;> try (cases hq; done)
      case len =>
        simp only [builtinA] at h
        split at h <;> try (cases h; done)
        rename_i t x rest hct
        obtain ⟨v, hv, rfl⟩ := pureR_val h
        refine ⟨v, rfl, fun E a ht => ?_⟩
        obtain ⟨u, us, hus, h1, h2⟩ := (hvl E a ht).inv
        have e0 : cargs.map a.eval = (u :: us).toArray := by rw [← hus]
        refine .of_gives (s := Builtin.len_ cts type (cargs.map a.eval)) rfl ?_
        rw [e0]
        refine len_ok hv h1 (fun id b o k e hu _ _ => ?_) us cts hct type
        exfalso
        simp only [hct, Option.bind_some, hu] at hq
        cases hq
      case max =>
        simp only [builtinA] at h
        split at h <;> try (cases h; done)
        rename_i k n xs
        split at h <;> try (cases h; done)
        rename_i m hm
        obtain ⟨v, hv, rfl⟩ := pureR_val h
        cases hv
        refine ⟨_, rfl, fun E a ht => ?_⟩
        obtain ⟨u, us, hus, h1, h2⟩ := (hvl E a ht).inv
        obtain rfl := h1.int_inv
        refine .of_gives (s := Builtin.max_ cts type (cargs.map a.eval)) rfl ⟨.int k m, ?_, .int _ _⟩
        simp only [Builtin.max_, hus]
        exact minmax_ok (b := true) hm h2
      case min =>
        simp only [builtinA] at h
        split at h <;> try (cases h; done)
        rename_i k n xs
        split at h <;> try (cases h; done)
        rename_i m hm
        obtain ⟨v, hv, rfl⟩ := pureR_val h
        cases hv
        refine ⟨_, rfl, fun E a ht => ?_⟩
        obtain ⟨u, us, hus, h1, h2⟩ := (hvl E a ht).inv
        obtain rfl := h1.int_inv
        refine .of_gives (s := Builtin.min_ cts type (cargs.map a.eval)) rfl ⟨.int k m, ?_, .int _ _⟩
        simp only [Builtin.min_, hus]
        exact minmax_ok (b := false) hm h2
      case unsafeSliceData =>
        simp only [builtinA] at h
        have key : ∃ x y, args = [x] ∧ r = .val y H := by
          split at h <;> try (cases h; done)
          · cases h; exact ⟨_, _, rfl, rfl⟩
          · split at h <;> try (cases h; done)
            cases h; exact ⟨_, _, rfl, rfl⟩
        obtain ⟨x, y, rfl, rfl⟩ := key
        refine ⟨y, rfl, fun E a ht => ?_⟩
        obtain ⟨u, us, hus, h1, h2⟩ := (hvl E a ht).inv
        obtain rfl := h2.inv_nil
        have e0 : cargs.map a.eval = #[u] := by
          apply Array.ext'
          rw [hus]
        refine .of_gives (s := Builtin.unsafeSliceData_ cts type (cargs.map a.eval)) rfl ?_
        rw [e0]
        exact sliceData_ok h h1 cts type
theorem cls_call (c : Call) : clsOf P (.call c) = .quiet ∨ clsOf P (.call c) = .other ∨ clsOf P (.call c) = .writer := by
  obtain ⟨callee, args, ts⟩ := c
  cases callee with
  | builtin b =>
    cases b <;> first
      | exact .inl rfl
      | exact .inr (.inr rfl)
      | skip
    show (match (ts[0]?).bind P.underlying with
      | some (.map _ _) => Cls.other
      | _ => .quiet) = .quiet ∨ (match (ts[0]?).bind P.underlying with
      | some (.map _ _) => Cls.other
      | _ => .quiet) = .other ∨ _
    split
    · exact .inr (.inl rfl)
    · exact .inl rfl
  | value f => exact .inr (.inr rfl)
  | invoke r m => exact .inr (.inr rfl)
theorem cls_slice (t : TypeId) (x : Operand) (a b c : Option Operand) : clsOf P (.slice t x a b c) = .quiet ∨ clsOf P (.slice t x a b c) = .other := by
  simp only [clsOf]
  split
  · exact .inr rfl
  · exact .inl rfl
theorem cls_convert (s t : TypeId) (x : Operand) : clsOf P (.convert s t x) = .quiet ∨ clsOf P (.convert s t x) = .other ∨ clsOf P (.convert s t x) = .writer := by
  simp only [clsOf]
  split
  · exact .inl rfl
  · exact .inl rfl
  · exact .inr (.inr rfl)
  · exact .inr (.inl rfl)

theorem Heap.push_inj {H : Heap} {ob ob' : Ob} (h : H.push ob = H.push ob') : ob = ob' := by
  have := congrArg (fun h => h.l.head?) h
  simpa [Heap.push] using this

/-- What a load or a look into a map asks of memory. -/
def Peeks (P : Program) (E : Env) (tm : List AV) (H : Heap) : Op → Prop
  | .load t x => ∀ x' n r, ev tm x = some x' → loadN P t = some n → rd H x' n = some r → Looks E x' n r
  | .lookup _ m _ _ => ∀ id b o, ev tm m = some (.map id) → E.mu id = some (b, o) → ObRel E b o (H.get id)
  | _ => True

theorem load_op {o : Oper} {tm : List AV} {H : Heap} {r : OR} (hq : clsOf P o.op = .load) (h : opA P o tm H = some r) :
    ∃ v, r = .val v H ∧ ∀ (E : Env) (a : Act), TM E tm a.tmps → Peeks P E tm H o.op → Done P E o a v E := by
  obtain ⟨dst, op, type, pos, after, guard⟩ := o
  cases op <;> simp only [opA] at h <;> try (first | (cases hq; done) | (cases h; done))
  case load t x =>
    split at h <;> try (cases h; done)
    rename_i x' hx
    obtain ⟨v, hv, rfl⟩ := pureR_val h
    exact ⟨v, rfl, fun E a ht hp => .of_gives rfl (load_ok hv (ev_spec ht hx) fun n r h1 h2 => hp x' n r hx h1 h2)⟩
  case lookup t m k ok =>
    split at h <;> try (cases h; done)
    rename_i m' k' hm hk
    obtain ⟨v, hv, rfl⟩ := pureR_val h
    exact ⟨v, rfl, fun E a ht hp => .of_gives rfl (lookup_ok hv (ev_spec ht hm) (ev_spec ht hk) fun id b o hid hmu => hp id b o (by rw [hm, hid]) hmu)⟩
  case call c => exfalso; rcases cls_call (P := P) c with h1 | h1 | h1 <;> rw [h1] at hq <;> cases hq
  case slice t x lo hi mx => exfalso; rcases cls_slice (P := P) t x lo hi mx with h1 | h1 <;> rw [h1] at hq <;> cases hq
  case convert s t x => exfalso; rcases cls_convert (P := P) s t x with h1 | h1 | h1 <;> rw [h1] at hq <;> cases hq

theorem new_op {o : Oper} {tm : List AV} {H : Heap} {r : OR} (hq : clsOf P o.op = .new) (h : opA P o tm H = some r) :
    ∃ v ob, r = .val v (H.push ob) ∧ ob.live ∧ ∀ (E : Env) (a : Act), TM E tm a.tmps → ∃ s : Sem Value, execOp a.eval o = (do pure (.value (← s))) ∧ News P E H.n s v ob := by
  obtain ⟨dst, op, type, pos, after, guard⟩ := o
  cases op <;> simp only [opA] at h <;> try (first | (cases hq; done) | (cases h; done))
  case alloc t =>
    split at h <;> try (cases h; done)
    rename_i z hz
    split at h <;> try (cases h; done)
    rename_i hc
    simp only [Option.some.injEq] at h; subst h
    exact ⟨_, _, rfl, trivial, fun E a ht => ⟨_, rfl, alloc_ok hz hc H.n⟩⟩
  case box t x =>
    split at h <;> try (cases h; done)
    rename_i v hx
    split at h <;> try (cases h; done)
    rename_i hc
    simp only [Option.some.injEq] at h; subst h
    exact ⟨_, _, rfl, trivial, fun E a ht => ⟨_, rfl, box_ok (ev_spec ht hx) hc H.n⟩⟩
  case buildSlice t len parts =>
    split at h <;> try (cases h; done)
    rename_i ps hps
    obtain ⟨v, H', hv, rfl⟩ := bothR_val h
    obtain ⟨bx, e, cs, rfl, hn⟩ : ∃ bx e cs, H' = H.push (.row bx e cs) ∧ ∀ (E : Env) (pv : List (Nat × Value)), ps.length = pv.length → (∀ (j : Nat) p q, ps[j]? = some p → pv[j]? = some q → p.1 = q.1 ∧ V E p.2 q.2) → News P E H.n (Instr.buildSlice t len pv.toArray) v (.row bx e cs) := by
      have hv' := hv
      unfold buildSliceA at hv
      split at hv <;> try (cases hv; done)
      split at hv <;> try (cases hv; done)
      split at hv <;> try (cases hv; done)
      split at hv <;> try (cases hv; done)
      split at hv <;> try (cases hv; done)
      simp only [Option.some.injEq, Prod.mk.injEq] at hv
      obtain ⟨_, rfl⟩ := hv
      refine ⟨_, _, _, rfl, fun E pv h1 h2 => ?_⟩
      obtain ⟨bx, e, cs, h3, h4⟩ := buildSlice_ok hv' h1 h2
      rw [← Heap.push_inj h3] at h4
      exact h4
    refine ⟨v, _, rfl, trivial, fun E a ht => ?_⟩
    obtain ⟨pv, h1, h2, h3⟩ := parts_spec ht hps
    refine ⟨Instr.buildSlice t len pv.toArray, ?_, hn E pv h2 h3⟩
    rw [← h1]
    unfold execOp
    with_reducible rfl
  case makeMap t x =>
    cases x with
    | none =>
      simp only [Option.some.injEq] at h; subst h
      exact ⟨_, _, rfl, trivial, fun E a ht => ⟨_, rfl, makeMap_ok none (.inl rfl) H.n⟩⟩
    | some x =>
      dsimp only at h
      split at h <;> try (cases h; done)
      rename_i k n key elem hx hu
      simp only [Option.some.injEq] at h; subst h
      refine ⟨_, _, rfl, trivial, fun E a ht => ⟨Instr.makeMap t (some (a.eval x)), rfl, ?_⟩⟩
      have := (ev_spec ht hx).int_inv
      rw [this]
      exact makeMap_ok _ (.inr ⟨k, n, key, elem, rfl, hu⟩) H.n
  case makeSlice t l c =>
    split at h <;> try (cases h; done)
    rename_i l' c' hl hc
    obtain ⟨v, H', hv, rfl⟩ := bothR_val h
    obtain ⟨ob, rfl, hlv⟩ : ∃ ob, H' = H.push ob ∧ ob.live := by
      unfold makeSliceA at hv
      split at hv <;> try (cases hv; done)
      split at hv <;> try (cases hv; done)
      split at hv <;> try (cases hv; done)
      simp only [Option.some.injEq, Prod.mk.injEq] at hv
      obtain ⟨_, rfl⟩ := hv
      exact ⟨_, rfl, trivial⟩
    refine ⟨v, ob, rfl, hlv, fun E a ht => ⟨Instr.makeSlice t (a.eval l) (a.eval c), rfl, ?_⟩⟩
    obtain ⟨bx, e, cs, h3, h4⟩ := makeSlice_ok hv (ev_spec ht hl) (ev_spec ht hc)
    rw [Heap.push_inj h3]
    exact h4
  case call c => exfalso; rcases cls_call (P := P) c with h1 | h1 | h1 <;> rw [h1] at hq <;> cases hq
  case slice t x lo hi mx => exfalso; rcases cls_slice (P := P) t x lo hi mx with h1 | h1 <;> rw [h1] at hq <;> cases hq
  case convert s t x => exfalso; rcases cls_convert (P := P) s t x with h1 | h1 | h1 <;> rw [h1] at hq <;> cases hq

def upd (g : Nat → Ob) (id : Nat) (ob : Ob) : Nat → Ob := fun i => if i = id then ob else g i

theorem store_op {o : Oper} {tm : List AV} {H : Heap} {r : OR} (hq : clsOf P o.op = .store) (h : opA P o tm H = some r) (hw : H.wf) :
    ∃ id off ob t x y, r = .val .undef (H.set id ob) ∧ o.op = .store t x y ∧ ev tm x = some (.ptr id off) ∧ id < H.n ∧ (H.get id).live ∧
      ∀ (E : Env) (a : Act) (g : Nat → Ob) (n : Nat), TM E tm a.tmps → Sat E g → g id = H.get id → id < n → ∃ E', Done P E o a .undef E' ∧ Ext E E' n n ∧ Sat E' (upd g id ob) := by
  obtain ⟨dst, op, type, pos, after, guard⟩ := o
  cases op <;> simp only [opA] at h <;> try (first | (cases hq; done) | (cases h; done))
  case store t x y =>
    split at h <;> try (cases h; done)
    rename_i x' y' hx hy
    obtain ⟨H', hst, rfl⟩ := heapR_val h
    have hst' := hst
    unfold storeA at hst
    split at hst <;> try (cases hst; done)
    rename_i id off sz hsz
    split at hst <;> try (cases hst; done)
    rename_i bx e0 cs hget
    dsimp only at hst
    split at hst <;> try (cases hst; done)
    rename_i hc
    simp only [Option.some.injEq] at hst; subst hst
    have hlive : (H.get id).live := by rw [hget]; trivial
    have hlt := Heap.get_lt hlive
    refine ⟨id, off, _, t, x, y, rfl, rfl, hx, hlt, hlive, fun E a g n ht hs hg hn => ?_⟩
    have hx' : ev tm x = some (.ptr id off) := hx
    obtain ⟨E', id', off', he, hr, hext, hlt', ob, hH, hsat⟩ := store_ok (g := g) hst' (ev_spec ht hx') (ev_spec ht hy) hs (fun i o e => by cases e; exact hg) n (fun i o e => by cases e; exact hn)
    cases he
    refine ⟨E', .of_unit rfl hr, hext, ?_⟩
    have e1 := congrArg (fun h => Heap.get h id) hH
    have e2 := Heap.get_set_same (H := H) ob hw hlt
    have e3 := e1.trans e2
    rw [Heap.get_set_same _ hw hlt] at e3
    rw [← e3] at hsat
    exact hsat
  case call c => exfalso; rcases cls_call (P := P) c with h1 | h1 | h1 <;> rw [h1] at hq <;> cases hq
  case slice t x lo hi mx => exfalso; rcases cls_slice (P := P) t x lo hi mx with h1 | h1 <;> rw [h1] at hq <;> cases hq
  case convert s t x => exfalso; rcases cls_convert (P := P) s t x with h1 | h1 | h1 <;> rw [h1] at hq <;> cases hq
end Go.Ab

/- The abstract machine: the operations that write, or look at more than one place. -/
namespace Go.Ab
set_option linter.unusedSectionVars false
variable [HasBase]
set_option linter.unusedVariables false
set_option linter.unusedSimpArgs false

variable {P : Program}

/-- An operation that came to a value. -/
def Full (P : Program) (o : Oper) (tm : List AV) (H : Heap) (v : AV) (H' : Heap) : Prop :=
  H'.wf ∧ H.n ≤ H'.n ∧ ∀ (E : Env) (a : Act), TM E tm a.tmps → Sat E H.get → Fresh E H.n H'.n → ∃ E', Done P E o a v E' ∧ Ext E E' H.n H'.n ∧ Sat E' H'.get

theorem Full.same {o : Oper} {tm : List AV} {H : Heap} {v : AV} (hw : H.wf) (h : ∀ (E : Env) (a : Act), TM E tm a.tmps → Sat E H.get → Done P E o a v E) : Full P o tm H v H :=
  ⟨hw, Nat.le_refl _, fun E a ht hs _ => ⟨E, h E a ht hs, Ext.refl E _, hs⟩⟩

theorem Done.of_comes {E : Env} {o : Oper} {a : Act} {v : AV} {s : Sem Value} {g g' : Nat → Ob} {n n' : Nat} (he : execOp a.eval o = (do pure (.value (← s)))) (h : Comes1 P E g n s v g' n') : ∃ E', Done P E o a v E' ∧ Ext E E' n n' ∧ Sat E' g' := by
  obtain ⟨val, E', h1, h2, h3, h4⟩ := h
  exact ⟨E', .of_run he h1 h2, h3, h4⟩

theorem appendA_n {H H' : Heap} {elem : TypeId} {s x y : AV} (h : appendA P H elem s x = some (y, H')) (hw : H.wf) : H.n ≤ H'.n ∧ H'.wf := by
  unfold appendA at h
  split at h <;> try (cases h; done)
  split at h <;> try (cases h; done)
  split at h <;> try (cases h; done)
  · split at h
    · simp only [Option.some.injEq, Prod.mk.injEq] at h
      obtain ⟨_, rfl⟩ := h
      exact ⟨Nat.le_refl _, hw⟩
    · split at h <;> try (cases h; done)
      simp only [Option.some.injEq, Prod.mk.injEq] at h
      obtain ⟨_, rfl⟩ := h
      exact ⟨by simp, Heap.wf_push _ hw⟩
  · split at h <;> try (cases h; done)
    dsimp only at h
    split at h <;> try (cases h; done)
    simp only [Option.some.injEq, Prod.mk.injEq] at h
    obtain ⟨_, rfl⟩ := h
    exact ⟨by simp, Heap.wf_push _ (Heap.wf_set _ _ hw)⟩

theorem convA_n {H H' : Heap} {s t : TypeId} {x y : AV} (h : convA P H s t x = some (y, H')) (hw : H.wf) : H.n ≤ H'.n ∧ H'.wf := by
  unfold convA at h
  split at h <;> try (cases h; done)
  · simp only [Option.some.injEq, Prod.mk.injEq] at h; obtain ⟨_, rfl⟩ := h; exact ⟨Nat.le_refl _, hw⟩
  · simp only [Option.some.injEq, Prod.mk.injEq] at h; obtain ⟨_, rfl⟩ := h; exact ⟨Nat.le_refl _, hw⟩
  · split at h <;> try (cases h; done)
    rename_i m cs _ _
    cases hb : bytesOfInts cs with
    | none => simp [hb] at h
    | some s => simp only [hb, Option.map_some, Option.some.injEq, Prod.mk.injEq] at h; obtain ⟨_, rfl⟩ := h; exact ⟨Nat.le_refl _, hw⟩
  · split at h <;> try (cases h; done)
    simp only [Option.some.injEq, Prod.mk.injEq] at h; obtain ⟨_, rfl⟩ := h; exact ⟨by simp, Heap.wf_push _ hw⟩
  · split at h <;> try (cases h; done)
    split at h <;> try (cases h; done)
    simp only [Option.some.injEq, Prod.mk.injEq] at h; obtain ⟨_, rfl⟩ := h; exact ⟨Nat.le_refl _, hw⟩
  · split at h <;> try (cases h; done)
    split at h <;> try (cases h; done)
    simp only [Option.some.injEq, Prod.mk.injEq] at h; obtain ⟨_, rfl⟩ := h; exact ⟨Nat.le_refl _, hw⟩

theorem sc_n {α : Prop} {p q : Prop} (h : p ∧ q) : q ∧ p := ⟨h.2, h.1⟩

/-- Of the argument types the first alone counts. -/
theorem uns_first {cts : Array TypeId} {pt ty : TypeId} {p : Option Addr} {l : Value} (hct : cts[0]? = some pt) : Builtin.unsafeString_ cts ty #[.pointer p, l] = Builtin.unsafeString_ #[pt, 0] ty #[.pointer p, l] := by
  show (Bind.bind (asInt l) _ : Sem Value) = Bind.bind (asInt l) _
  simp only [hct]
  rfl
theorem full_op {o : Oper} {tm : List AV} {H H' : Heap} {v : AV} (hq : clsOf P o.op = .other ∨ clsOf P o.op = .writer) (h : opA P o tm H = some (.val v H')) (hw : H.wf) :
    Full P o tm H v H' ∧ (clsOf P o.op = .other → H' = H) := by
  obtain ⟨dst, op, type, pos, after, guard⟩ := o
  cases op <;> simp only [opA] at h <;> try (first | (rcases hq with hq | hq <;> cases hq; done) | (cases h; done))
  case convert s t x =>
    split at h <;> try (cases h; done)
    rename_i va hx
    obtain ⟨u, H'', hv, he⟩ := bothR_val h
    cases he
    obtain ⟨hn1, hn2⟩ := convA_n hv hw
    refine ⟨⟨hn2, hn1, fun E a ht hs hf => ?_⟩, fun hcl => ?_⟩
    · exact Done.of_comes rfl (conv_ok hv (ev_spec ht hx) hs hw hf).1
    · simp only [clsOf] at hcl
      unfold convA at hv
      split at hv <;> try (cases hv; done)
      · simp only [Option.some.injEq, Prod.mk.injEq] at hv; exact hv.2.symm
      · simp only [Option.some.injEq, Prod.mk.injEq] at hv; exact hv.2.symm
      · split at hv <;> try (cases hv; done)
        rename_i m cs _ _
        cases hb : bytesOfInts cs with
        | none => simp [hb] at hv
        | some s => simp only [hb, Option.map_some, Option.some.injEq, Prod.mk.injEq] at hv; exact hv.2.symm
      · rename_i h1 h2
        simp only [h1, h2] at hcl
        cases hcl
      · split at hv <;> try (cases hv; done)
        split at hv <;> try (cases hv; done)
        simp only [Option.some.injEq, Prod.mk.injEq] at hv; exact hv.2.symm
      · split at hv <;> try (cases hv; done)
        split at hv <;> try (cases hv; done)
        simp only [Option.some.injEq, Prod.mk.injEq] at hv; exact hv.2.symm
  case slice t x lo hi mx =>
    cases mx with
    | some m => cases h
    | none =>
    dsimp only at h
    simp only [clsOf] at hq
    split at h <;> try (cases h; done)
    · rename_i hu _ _ _
      rw [hu] at hq
      rcases hq with hq | hq <;> cases hq
    · rename_i hu _ _ _
      rw [hu] at hq
      rcases hq with hq | hq <;> cases hq
    · rename_i n elem id off lo' hi' hu hx hlo hhi
      split at h <;> try (cases h; done)
      rename_i e bx e0 cs he hg
      split at h <;> try (cases h; done)
      rename_i hroom
      obtain ⟨u, hv, he'⟩ := pureR_val h
      cases he'
      exact ⟨.same hw fun E a ht hs => .of_gives (s := Instr.sliceAt t (a.eval x) (lo.map a.eval) (hi.map a.eval) none) rfl
        (sliceArr_ok hu he hs hg hroom hv (ev_spec ht hx) (evO_spec ht hlo) (evO_spec ht hhi)), fun _ => rfl⟩
  case mapUpdate t m k x =>
    split at h <;> try (cases h; done)
    rename_i m' k' x' hm hk hx
    obtain ⟨H'', hv, he⟩ := heapR_val h
    cases he
    have hn := mapUpdate_n hv
    refine ⟨⟨?_, by rw [hn]; exact Nat.le_refl _, fun E a ht hs hf => ?_⟩, fun hcl => by cases hcl⟩
    · unfold mapUpdateA at hv
      split at hv <;> try (cases hv; done)
      split at hv <;> try (cases hv; done)
      split at hv <;> try (cases hv; done)
      split at hv <;> try (cases hv; done)
      · simp only [Option.some.injEq] at hv; subst hv; exact Heap.wf_set _ _ hw
      · simp only [Option.some.injEq] at hv; subst hv; exact Heap.wf_set _ _ hw
    · obtain ⟨E', h1, h2, h3, h4⟩ := mapUpdate_ok hv (ev_spec ht hm) (ev_spec ht hk) (ev_spec ht hx) hs hw
      exact ⟨E', .of_unit rfl h1, h2, h3⟩
  case insert t m k x =>
    split at h <;> try (cases h; done)
    rename_i m' k' x' hm hk hx
    obtain ⟨H'', hv, he⟩ := heapR_val h
    cases he
    have hn := mapUpdate_n hv
    refine ⟨⟨?_, by rw [hn]; exact Nat.le_refl _, fun E a ht hs hf => ?_⟩, fun hcl => by cases hcl⟩
    · unfold mapUpdateA at hv
      split at hv <;> try (cases hv; done)
      split at hv <;> try (cases hv; done)
      split at hv <;> try (cases hv; done)
      split at hv <;> try (cases hv; done)
      · simp only [Option.some.injEq] at hv; subst hv; exact Heap.wf_set _ _ hw
      · simp only [Option.some.injEq] at hv; subst hv; exact Heap.wf_set _ _ hw
    · obtain ⟨E', h1, h2, h3, h4⟩ := mapUpdate_ok hv (ev_spec ht hm) (ev_spec ht hk) (ev_spec ht hx) hs hw
      exact ⟨E', .of_unit rfl h1, h2, h3⟩
  case panic x =>
    split at h <;> cases h
  case call c =>
    split at h <;> try (cases h; done)
    rename_i args hargs
    obtain ⟨callee, cargs, cts⟩ := c
    cases callee with
    | value f => dsimp only at h; split at h <;> cases h
    | invoke r m => cases h
    | builtin b =>
      dsimp only at h hargs
      have hvl : ∀ (E : Env) (a : Act), TM E tm a.tmps → VL E args (cargs.map a.eval).toList := fun E a ht => by
        have := evs_spec ht hargs
        simpa using this
      cases b <;> (try (rcases hq with hq | hq <;> cases hq; done)) <;> simp only [builtinA] at h <;> try (cases h; done)
      case len =>
        split at h <;> try (cases h; done)
        rename_i t x rest hct
        obtain ⟨u, hv, he⟩ := pureR_val h
        cases he
        refine ⟨.same hw fun E a ht hs => ?_, fun _ => rfl⟩
        obtain ⟨u, us, hus, h1, h2⟩ := (hvl E a ht).inv
        have e0 : cargs.map a.eval = (u :: us).toArray := by rw [← hus]
        refine .of_gives (s := Builtin.len_ cts type (cargs.map a.eval)) rfl ?_
        rw [e0]
        exact len_ok hv h1 (fun id b o k e hu hid hm => hs.ob id b o hm) us cts hct type
      case append =>
        split at h <;> try (cases h; done)
        rename_i t tx s x rest hct hct2
        have key : ∃ elem d, P.underlying t = some (.slice elem) ∧ P.underlying tx = some d ∧ (∀ k, d ≠ .int k) ∧ bothR (appendA P H elem s x) = some (.val v H') := by
          split at h <;> try (cases h; done)
          · exact ⟨_, _, ‹_›, ‹_›, (fun k e => by cases e), h⟩
          · exact ⟨_, _, ‹_›, ‹_›, (fun k e => by cases e), h⟩
        obtain ⟨elem, d, hu, htx, hd, h⟩ := key
        obtain ⟨y, H'', hv, he⟩ := bothR_val h
        cases he
        obtain ⟨hn1, hn2⟩ := appendA_n hv hw
        refine ⟨⟨hn2, hn1, fun E a ht hs hf => ?_⟩, fun hcl => by cases hcl⟩
        obtain ⟨u, us, hus, h1, h2⟩ := (hvl E a ht).inv
        obtain ⟨u2, us2, rfl, h3, h4⟩ := h2.inv
        refine Done.of_comes (g := H.get) (s := Builtin.append_ cts type (cargs.map a.eval)) rfl ?_
        have e0 : cargs.map a.eval = (u :: u2 :: us2).toArray := by rw [← hus]
        have e1 : Builtin.append_ cts type (cargs.map a.eval) = Builtin.append_ #[t, tx] type #[u, u2] := by
          rw [e0]
          unfold Builtin.append_
          simp only [hct, hct2, List.getElem?_toArray, List.getElem?_cons_zero, List.getElem?_cons_succ]
        rw [e1]
        exact (append_ok hv hu htx hd h1 h3 hs hw hf type).1
      case clear =>
        split at h <;> try (cases h; done)
        rename_i t x hct
        split at h <;> try (cases h; done)
        rename_i elem hu
        split at h <;> try (cases h; done)
        rename_i H'' hv
        simp only [Option.some.injEq, OR.val.injEq] at h
        obtain ⟨rfl, rfl⟩ := h
        have e1 : ∀ (a : Act) (u : Value), cargs.map a.eval = #[u] → Builtin.clear_ cts type (cargs.map a.eval) = Builtin.clear_ #[t] type #[u] := fun a u e0 => by
          rw [e0]
          unfold Builtin.clear_
          simp only [hct, List.getElem?_toArray, List.getElem?_cons_zero]
        have nothing : ∀ (E : Env) (a : Act) (b : Option Addr) (c : Nat), (b = none ∨ True) → cargs.map a.eval = #[.slice b 0 c] → (Builtin.clear_ cts type (cargs.map a.eval)).run P E.w = .ok (.tuple #[]) E.w := fun E a b c _ e0 => by
          rw [e1 a _ e0]
          cases b <;> simp [Builtin.clear_, run_underlying hu]
        unfold clearA at hv
        split at hv <;> try (cases hv; done)
        · simp only [Option.some.injEq] at hv; subst hv
          refine ⟨.same hw fun E a ht hs => ?_, fun _ => rfl⟩
          obtain ⟨u, us, hus, h1, h2⟩ := (hvl E a ht).inv
          obtain rfl := h2.inv_nil
          cases h1
          have e0 : cargs.map a.eval = #[.slice none 0 0] := by apply Array.ext'; rw [hus]
          exact .of_gives (s := Builtin.clear_ cts type (cargs.map a.eval)) rfl ⟨.tuple #[], nothing E a none 0 (.inr trivial) e0, V.mkTup (VL.nil E)⟩
        · rename_i id off len esz
          split at hv
          · rename_i hl0
            subst hl0
            simp only [Option.some.injEq] at hv; subst hv
            refine ⟨.same hw fun E a ht hs => ?_, fun _ => rfl⟩
            obtain ⟨u, us, hus, h1, h2⟩ := (hvl E a ht).inv
            obtain rfl := h2.inv_nil
            cases h1 with
            | sl _ _ off' _ cap _ b o =>
              have e0 : cargs.map a.eval = #[.slice (some ⟨b, o + off', none⟩) 0 cap] := by apply Array.ext'; rw [hus]
              exact .of_gives (s := Builtin.clear_ cts type (cargs.map a.eval)) rfl ⟨.tuple #[], nothing E a _ cap (.inr trivial) e0, V.mkTup (VL.nil E)⟩
          · rename_i hl0
            split at hv <;> try (cases hv; done)
            rename_i bx e0 cs z hg hz
            split at hv <;> try (cases hv; done)
            rename_i hc
            simp only [Option.some.injEq] at hv; subst hv
            refine ⟨⟨Heap.wf_set _ _ hw, Nat.le_refl _, fun E a ht hs hf => ?_⟩, fun hcl => by cases hcl⟩
            obtain ⟨u, us, hus, h1, h2⟩ := (hvl E a ht).inv
            obtain rfl := h2.inv_nil
            have e0 : cargs.map a.eval = #[u] := by apply Array.ext'; rw [hus]
            refine Done.of_comes (g := H.get) (s := Builtin.clear_ cts type (cargs.map a.eval)) rfl ?_
            rw [e1 a u e0]
            exact (clear_ok hu hg hz hc.1 hc.2.1 hc.2.2.1 hc.2.2.2 (by omega) h1 hs hw type).1
      case unsafeString =>
        split at h <;> try (cases h; done)
        · rename_i pt k n hct
          split at h <;> try (cases h; done)
          rename_i hn0
          subst hn0
          obtain ⟨y, hv, he⟩ := pureR_val h
          cases he
          cases hv
          refine ⟨.same hw fun E a ht hs => ?_, fun _ => rfl⟩
          obtain ⟨u, us, hus, h1, h2⟩ := (hvl E a ht).inv
          obtain ⟨u2, us2, rfl, h3, h4⟩ := h2.inv
          obtain rfl := h4.inv_nil
          cases h1
          obtain rfl := h3.int_inv
          have e0 : cargs.map a.eval = #[.pointer none, .int k 0] := by apply Array.ext'; rw [hus]
          refine .of_gives (s := Builtin.unsafeString_ cts type (cargs.map a.eval)) rfl ⟨.string .empty, ?_, .str _ _ rfl⟩
          rw [e0]
          have hmax : IntKind.i64.max = 9223372036854775807 := by decide
          show (Bind.bind (asInt (.int k 0)) _ : Sem Value).run P E.w = _
          simp [hct, asInt, asIntOf, hmax]
        · rename_i pt id off k n hct
          split at h <;> try (cases h; done)
          rename_i e bx e0 cs hp hg
          split at h <;> try (cases h; done)
          rename_i hc
          obtain ⟨rfl, hc1, hn, hlen, hn2⟩ := hc
          split at h <;> try (cases h; done)
          rename_i s hb
          simp only [Option.some.injEq, OR.val.injEq] at h
          obtain ⟨rfl, rfl⟩ := h
          have hlt : id < H.n := by
            have : (H.get id).live := by rw [hg]; trivial
            exact Heap.get_lt this
          refine ⟨⟨Heap.wf_set _ _ hw, Nat.le_refl _, fun E a ht hs hf => ?_⟩, fun hcl => by cases hcl⟩
          obtain ⟨u, us, hus, h1, h2⟩ := (hvl E a ht).inv
          obtain ⟨u2, us2, rfl, h3, h4⟩ := h2.inv
          obtain rfl := h4.inv_nil
          obtain rfl := h3.int_inv
          have e0 : cargs.map a.eval = #[u, .int k n] := by apply Array.ext'; rw [hus]
          obtain ⟨val, E', g1, g2, g3, g4⟩ := unsafeString_ok (it := 0) (ty := type) (k := k) hs hp hg hc1 hn hn2 hlen hb h1 H.n hlt
          refine ⟨E', .of_run (s := Builtin.unsafeString_ cts type (cargs.map a.eval)) rfl ?_ g2, g3, ?_⟩
          · rw [← g1, e0]
            cases h1
            rw [uns_first hct]
          · rw [Heap.get_set _ hw hlt]; exact g4
end Go.Ab
