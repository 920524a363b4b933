/- The abstract machine: a region in any order. -/
import Derived.Test.YtajihhoaimgeaaaGreatDoorAd
import Derived.Scope
import Derived.Recover
set_option linter.unusedVariables false
set_option linter.unusedSimpArgs false
set_option linter.unusedSectionVars false
set_option linter.unnecessarySimpa false
namespace Go.Ab
set_option linter.unusedSectionVars false
variable [HasBase]
set_option linter.unusedVariables false
set_option linter.unusedSimpArgs false

variable {P : Program} {call : CallFn} {ops : Array Oper} {M : Nat} {T : Nat → List AV} {G : Nat → Heap} {nE : Nat}
  {E0 : Env} {a0 : Act} {Ds : List Tmp}

theorem step_draw {S : Nat → Prop} {E : Env} {a : Act} (D : DR P call ops M T G nE) {i : Nat} {o : Oper} {Q : Exit → Act → World → Prop} (him : i < M) (hr : Rdy ops S i o) (hi : Inv P ops M T G nE E0 a0 Ds S E a) (hD : ∀ d, o.dst = some d → d ∈ Ds) :
    wpOp P ops Q i (fun a' w' => ∃ E', E'.w = w' ∧ Inv P ops M T G nE E0 a0 Ds (Plus S i) E' a') a E.w := by
  obtain ⟨o', ho', hs⟩ := D.tr.step i him
  rw [hr.op] at ho'; cases ho'
  obtain ⟨tmS, ht, hlen, htd⟩ := hi.tms
  have hlook := looks_same D (by omega) hr hi htd
  obtain ⟨hop, hwant, hev⟩ := looks_congr hlook
  have hwok := wanted_ok (ops := ops) (o := o) ht
  rw [hwant] at hwok
  rcases stepA_cases hs with ⟨hw, hT, hG⟩ | ⟨hw, v, hv, hT⟩ | ⟨hw, f, args, v, hv, hcv, hT⟩
  · refine wpOp_unwanted hr.op (by rw [hwok]; exact hw) ⟨E, rfl, ?_⟩
    exact inv_same D him hr hi hG (fun _ => hw) hD .undef hT
  · rw [hw] at hwok
    rw [← hop] at hv
    cases hq : clsOf P o.op with
    | quiet =>
      obtain ⟨v', e, hd⟩ := quiet_op hq hv
      simp only [OR.val.injEq] at e
      obtain ⟨rfl, hG⟩ := e
      exact wpOp_done hr.op hwok (hd E a ht) fun val hval => ⟨E, rfl, inv_same D him hr hi hG (fun h => by rw [hq] at h; cases h) hD hval hT⟩
    | load =>
      obtain ⟨v', e, hd⟩ := load_op hq hv
      simp only [OR.val.injEq] at e
      obtain ⟨rfl, hG⟩ := e
      exact wpOp_done hr.op hwok (hd E a ht (peeks_at D him hr hi hq hw hev)) fun val hval => ⟨E, rfl, inv_same D him hr hi hG (fun h => by rw [hq] at h; cases h) hD hval hT⟩
    | new =>
      obtain ⟨v', ob, e, hl, hd⟩ := new_op hq hv
      simp only [OR.val.injEq] at e
      obtain ⟨rfl, hG⟩ := e
      obtain ⟨s, he, hn⟩ := hd E a ht
      obtain ⟨E', h1, h2⟩ := inv_new D him hr hi hG hl hD hn he hT
      exact wpOp_done hr.op hwok h1 fun val hval => ⟨E', rfl, h2 val hval⟩
    | store =>
      obtain ⟨id, off, ob, t, x, y, e, hopx, hx, hlt, hlive, hd⟩ := store_op hq hv (D.wf (by omega))
      simp only [OR.val.injEq] at e
      obtain ⟨rfl, hG⟩ := e
      have hx' : ev (T i) x = some (.ptr id off) := by rw [← hev x (by rw [hopx]; simp [Op.operands])]; exact hx
      have hmu : ∃ p, E.mu id = some p := by
        have hV := ev_spec ht hx
        generalize a.eval x = u at hV
        cases hV
        exact ⟨_, ‹_›⟩
      obtain ⟨E', h1, h2⟩ := inv_store D him hr hi hq hw hopx hx' hG hlt hD hT hmu fun n h1 h2 => hd E a (gS M G S) n ht hi.sat h1 h2
      exact wpOp_done hr.op hwok h1 fun val hval => ⟨E', rfl, h2 val hval⟩
    | other =>
      obtain ⟨⟨f1, f2, f3⟩, _⟩ := full_op (.inl hq) hv (D.wf (by omega))
      obtain ⟨E', h1, h2, h3⟩ := f3 E a ht (sat_at D (by omega) hr hi (.inl hq)) (fresh_at D him hr hi)
      exact wpOp_done hr.op hwok h1 fun val hval => ⟨E', rfl, inv_writer D him hr hi (.inl hq) hD hT h2 h3 hval⟩
    | writer =>
      obtain ⟨⟨f1, f2, f3⟩, _⟩ := full_op (.inr hq) hv (D.wf (by omega))
      obtain ⟨E', h1, h2, h3⟩ := f3 E a ht (sat_at D (by omega) hr hi (.inr hq)) (fresh_at D him hr hi)
      exact wpOp_done hr.op hwok h1 fun val hval => ⟨E', rfl, inv_writer D him hr hi (.inr hq) hD hT h2 h3 hval⟩
  · rw [hw] at hwok
    rw [← hop] at hv
    obtain ⟨hq, hc⟩ := call_op hv
    obtain ⟨vs, hvl, he⟩ := hc E a ht
    obtain ⟨_, _, h3⟩ := D.hcall f args (G i) _ _ hcv (D.wf (by omega))
    refine wpOp_call hr.op hwok he (h3 E vs hvl (sat_at D (by omega) hr hi (.inr hq)) (fresh_at D him hr hi)) ?_ ?_ ?_
    · rintro u w' ⟨E', rfl, hext, hsat, u', hu', hV⟩
      cases hu'
      exact ⟨E', rfl, inv_writer D him hr hi (.inr hq) hD hT hext hsat hV⟩
    · rintro ch w' ⟨E', rfl, hext, hsat, u', hu', hV⟩
      cases hu'
    · rintro w' ⟨E', rfl, hext, hsat, u', hu', hV⟩
      cases hu'

/-- How the text run ends. -/
def Fin (P : Program) (call : CallFn) (ops : Array Oper) (M : Nat) (T : Nat → List AV) (G : Nat → Heap) (nE : Nat) (R : SR) : Prop :=
  (M = ops.size ∧ R = .go (T M) (G M) ∧ nE = (G M).n) ∨
  (∃ o p H', ops[M]? = some o ∧ stepA P call ops o (T M) (G M) = some (.pan p H') ∧ R = .pan p H' ∧ nE = H'.n ∧ ∀ i oi, ops[i]? = some oi → M < i → (an ops i).testBit M = true)

theorem stepA_pan {o : Oper} {tm : List AV} {H H' : Heap} {p : AV} (h : stepA P call ops o tm H = some (.pan p H')) :
    wantedA ops o tm = true ∧ ((opA P o tm H = some (.pan p) ∧ H' = H) ∨ ∃ f args, opA P o tm H = some (.call f args) ∧ call f args H = some (.pan p, H')) := by
  unfold stepA at h
  split at h
  · rename_i hw
    refine ⟨hw, ?_⟩
    split at h <;> try (cases h; done)
    · rename_i v hop
      simp only [Option.some.injEq, SR.pan.injEq] at h
      obtain ⟨rfl, rfl⟩ := h
      exact .inl ⟨hop, rfl⟩
    · rename_i f args hop
      split at h <;> try (cases h; done)
      rename_i v H1 hc
      simp only [Option.some.injEq, SR.pan.injEq] at h
      obtain ⟨rfl, rfl⟩ := h
      exact .inr ⟨f, args, hop, hc⟩
  · cases h

/-- The operation that panics. -/
theorem pan_draw {S : Nat → Prop} {E : Env} {a : Act} (D : DR P call ops M T G nE) {o : Oper} {p : AV} {H' : Heap} {K : Act → World → Prop} (hr : Rdy ops S M o) (hi : Inv P ops M T G nE E0 a0 Ds S E a) (hs : stepA P call ops o (T M) (G M) = some (.pan p H')) (hE : nE = H'.n) :
    wpOp P ops (RPost E0 (G 0).n a0 Ds (.pan p H')) M K a E.w := by
  obtain ⟨tmS, ht, hlen, htd⟩ := hi.tms
  have hlook := looks_same D (Nat.le_refl _) hr hi htd
  obtain ⟨hop, hwant, hev⟩ := looks_congr hlook
  have hwok := wanted_ok (ops := ops) (o := o) ht
  rw [hwant] at hwok
  obtain ⟨hw, hcase⟩ := stepA_pan hs
  rw [hw] at hwok
  have hwf := D.wf (i := M) (Nat.le_refl _)
  rcases hcase with ⟨hv, rfl⟩ | ⟨f, args, hv, hcv⟩
  · rw [← hop] at hv
    obtain ⟨hq, hp⟩ := pan_op hv
    obtain ⟨u, hu, hrun⟩ := hp E a ht
    refine wpOp_pan hr.op hwok hrun ⟨⟨E, rfl, ?_, sat_at D (Nat.le_refl _) hr hi (.inr hq), u, rfl, hu⟩, hi.defers, hi.size, hi.keep⟩
    have := hi.ext
    rw [hE] at this
    exact this
  · rw [← hop] at hv
    obtain ⟨hq, hc⟩ := call_op hv
    obtain ⟨vs, hvl, he⟩ := hc E a ht
    obtain ⟨_, h2, h3⟩ := D.hcall f args (G M) _ _ hcv hwf
    have hfr : Fresh E (G M).n H'.n := fun id g1 g2 => by
      cases hm : E.mu id with
      | none => rfl
      | some q =>
        exfalso
        have hm0 := D.mono (i := 0) (j := M) (by omega) (Nat.le_refl _)
        obtain ⟨k, hk, b1, b2⟩ := hi.dom id q hm (by omega) (by omega)
        have := D.mono (i := k + 1) (j := M) (by have := hi.lt k hk; omega) (Nat.le_refl _)
        omega
    refine wpOp_call hr.op hwok he (h3 E vs hvl (sat_at D (Nat.le_refl _) hr hi (.inr hq)) hfr) ?_ ?_ ?_
    · rintro u w' ⟨E', rfl, hext, hsat, u', hu', hV⟩
      cases hu'
    · rintro ch w' ⟨E', rfl, hext, hsat, u', hu', hV⟩
      cases hu'
      refine ⟨⟨E', rfl, ?_, hsat, u', rfl, hV⟩, hi.defers, hi.size, hi.keep⟩
      have := hi.ext.inside hext (D.mono (by omega) (Nat.le_refl _)) (by omega)
      rw [hE] at this
      exact this
    · rintro w' ⟨E', rfl, hext, hsat, u', hu', hV⟩
      cases hu'

theorem countP_set : ∀ (l : List Bool) (i : Nat), l[i]? = some false → ((l.set i true).filter (!·)).length + 1 = (l.filter (!·)).length
  | [], i, h => by simp at h
  | b :: l, 0, h => by simp at h; subst h; simp
  | b :: l, i + 1, h => by
    have := countP_set l i (by simpa using h)
    cases b <;> simp at this ⊢ <;> omega

def Lst (listed : Array Bool) : Nat → Prop := fun k => listed.getD k false = true

theorem lst_set {listed : Array Bool} {i : Nat} (h : i < listed.size) : Lst (listed.setIfInBounds i true) = Plus (Lst listed) i := funext fun k => propext (by
  unfold Lst Plus
  by_cases hk : k = i
  · subst hk; simp [h]
  · rw [getD_set_ne false (fun e => hk e.symm)]
    constructor
    · exact .inl
    · rintro (h | h)
      · exact h
      · exact absurd h hk)

theorem any_ok (D : DR P call ops M T G nE) {R : SR} (hfin : Fin P call ops M T G nE R) (hDs : ∀ (i : Nat) (o : Oper), ops[i]? = some o → ∀ d, o.dst = some d → d ∈ Ds) :
    ∀ (fuel : Nat) (listed : Array Bool) (E : Env) (a : Act), listed.size = ops.size → (listed.toList.filter (!·)).length ≤ fuel → Inv P ops M T G nE E0 a0 Ds (Lst listed) E a →
      wpAny P .any ops (RPost E0 (G 0).n a0 Ds R) fuel listed a E.w := by
  -- when all have run
  have all : ∀ (listed : Array Bool) (E : Env) (a : Act), listed.size = ops.size → Region.ready .any ops listed = [] → Inv P ops M T G nE E0 a0 Ds (Lst listed) E a → RPost E0 (G 0).n a0 Ds R .normal a E.w := by
    intro listed E a hsz hre hi
    have hall : ∀ n k, k < n → k < ops.size → Lst listed k := by
      intro n
      induction n with
      | zero => intro k h; omega
      | succ n ih =>
        intro k hk hks
        refine Classical.byContradiction fun hn => ?_
        have hok : ops[k]? = some ops[k] := by simp [hks]
        have hmem : k ∈ Region.ready .any ops listed := by
          rw [mem_ready]
          refine ⟨?_, ops[k], hok, fun e he hb => ?_⟩
          · unfold Lst at hn
            simp only [Array.getD, show k < listed.size from by omega, dif_pos] at hn ⊢
            simpa using hn
          · have hbit : (an ops k).testBit e.on = true := by
              rw [an_eq hok, edges_spec]
              exact ⟨e, by simpa using he, hb, .inl rfl⟩
            have hlt := D.low hok hbit
            exact ih e.on (by omega) (by omega)
        rw [hre] at hmem
        cases hmem
    rcases hfin with ⟨hM, hR, hE⟩ | ⟨o, p, H', ho, hs, hR, hE, hlast⟩
    · subst hR
      obtain ⟨tmS, ht, hlen, htd⟩ := hi.tms
      have hg : gS M G (Lst listed) = (G M).get := funext fun id => content_eq (Nat.le_refl _) (fun k hk _ => hall (k + 1) k (by omega) (by omega)) fun k h1 h2 => by omega
      have htm : tmS = T M := by
        refine List.ext_getElem? fun d => ?_
        by_cases hex : ∃ k o, Lst listed k ∧ ops[k]? = some o ∧ o.dst = some d
        · exact (htd d).1 hex
        · rw [(htd d).2 hex]
          exact (D.tr.stays d 0 M (Nat.zero_le _) (Nat.le_refl _) fun k o g1 g2 g3 hd => hex ⟨k, o, hall (k + 1) k (by omega) (by omega), g3, hd⟩).symm
      refine ⟨⟨E, rfl, ?_, ?_, ?_⟩, hi.defers, hi.size, hi.keep⟩
      · have := hi.ext; rw [hE] at this; exact this
      · show Sat E (G M).get
        rw [← hg]; exact hi.sat
      · show TM E (T M) a.tmps
        rw [← htm]; exact ht
    · exfalso
      have hMs : M < ops.size := (Array.getElem?_eq_some_iff.1 ho).1
      have := hi.lt M (hall (M + 1) M (by omega) hMs)
      omega
  intro fuel
  induction fuel with
  | zero =>
    intro listed E a hsz hc hi
    have hre : Region.ready .any ops listed = [] := by
      rw [List.eq_nil_iff_forall_not_mem]
      intro k hk
      obtain ⟨h1, o, ho, _⟩ := mem_ready.1 hk
      have hks : k < ops.size := (Array.getElem?_eq_some_iff.1 ho).1
      have hb : listed.toList[k]? = some false := by
        simp only [Array.getD, show k < listed.size from by omega, dif_pos] at h1
        rw [Array.getElem?_toList]
        simp [show k < listed.size from by omega]
        simpa using h1
      have := countP_set _ _ hb
      omega
    exact ⟨hre, all listed E a hsz hre hi⟩
  | succ fuel ih =>
    intro listed E a hsz hc hi
    refine ⟨fun hre => all listed E a hsz hre hi, fun i hi' => ?_⟩
    obtain ⟨h1, o, ho, hall⟩ := mem_ready.1 hi'
    have his : i < ops.size := (Array.getElem?_eq_some_iff.1 ho).1
    have hb : listed.toList[i]? = some false := by
      simp only [Array.getD, show i < listed.size from by omega, dif_pos] at h1
      rw [Array.getElem?_toList]
      simp [show i < listed.size from by omega]
      simpa using h1
    have hr : Rdy ops (Lst listed) i o := by
      refine ⟨ho, fun h => ?_, hall⟩
      unfold Lst at h
      simp only [Array.getD, show i < listed.size from by omega, dif_pos] at h h1
      rw [h1] at h
      cases h
    have hstep : i < M → wpOp P ops (RPost E0 (G 0).n a0 Ds R) i (wpAny P .any ops (RPost E0 (G 0).n a0 Ds R) fuel (listed.setIfInBounds i true)) a E.w := fun him =>
      wpOp_mono (fun a' w' ⟨E', hw, hi''⟩ => by
        rw [← hw]
        refine ih (listed.setIfInBounds i true) E' a' (by simp [hsz]) ?_ (by rw [lst_set (by omega)]; exact hi'')
        have := countP_set _ _ hb
        rw [Array.toList_setIfInBounds]
        omega) (step_draw D him hr hi (hDs i o ho))
    rcases hfin with ⟨hM, hR, hE⟩ | ⟨o', p, H', ho', hs, hR, hE, hlast⟩
    · exact hstep (by omega)
    · rcases Nat.lt_trichotomy i M with h | h | h
      · exact hstep h
      · subst h
        rw [ho] at ho'; cases ho'
        subst hR
        exact pan_draw D hr hi hs hE
      · exfalso
        have := hi.lt M (hr.anc hi (hlast i o ho h))
        omega
theorem pairOk_spec {snaps : List (List AV × Heap)} {i j : Nat} {tmi tmj tmk : List AV} {Hi Hj Hk : Heap} {o : Oper} (h : pairOk P ops snaps i j = true) (h1 : snaps[i]? = some (tmi, Hi)) (h2 : snaps[j]? = some (tmj, Hj)) (h3 : snaps[j + 1]? = some (tmk, Hk)) (ho : ops[i]? = some o) (hw : wantedA ops o tmi = true) :
    PairFact P o tmi Hi Hj Hk := by
  unfold pairOk at h
  rw [h1, h2, h3, ho] at h
  dsimp only at h
  rw [if_pos hw] at h
  unfold PairFact
  split at h
  · rename_i t a hop
    rw [hop]
    split at h <;> try (cases h; done)
    rename_i x m hx hm
    exact ⟨x, m, hx, hm, eqO_eq h⟩
  · rename_i t m k ok hop
    rw [hop]
    split at h <;> try (cases h; done)
    · rename_i id hx
      intro id' hx'
      rw [hx] at hx'
      cases hx'
      exact Ob.same_eq h
    · rename_i hx
      intro id' hx'
      rw [hx] at hx'
      cases hx'
  · rename_i t a x hop
    rw [hop]
    split at h <;> try (cases h; done)
    rename_i id off hx
    intro id' off' hx'
    rw [hx] at hx'
    cases hx'
    exact Ob.same_eq h
  · rename_i n1 n2 n3
    split
    · rename_i hop; exact absurd hop (n1 _ _)
    · rename_i hop; exact absurd hop (n2 _ _ _ _)
    · rename_i hop; exact absurd hop (n3 _ _ _)
    · exact Ob.same_eq h

theorem region_draw (hcall : CallOK P call) (hm : P.follows .mixedOrders = true) {tm : List AV} {H : Heap} {R : SR} (h : runDraw P call ops tm H = some R) (hw : H.wf) (id : Nat) :
    R.heap.wf ∧ H.n ≤ R.heap.n ∧ ∀ (E : Env) (a : Act), TM E tm a.tmps → Sat E H.get → Fresh E H.n R.heap.n → (Code.region id ops true).wp P (RPost E H.n a (ops.toList.filterMap (·.dst)) R) a E.w := by
  unfold runDraw at h
  split at h <;> try (cases h; done)
  rename_i hokd
  have hok := okDraw_spec hokd
  cases htr : runTrace P call ops ops.toList tm H with
  | none => simp [htr] at h
  | some sr =>
  obtain ⟨snaps, R0⟩ := sr
  cases hps : pairsOf P ops.toList with
  | none => simp [htr, hps] at h
  | some ps =>
  obtain ⟨t1, t2, t3, t4⟩ := trace_of (P := P) (call := call) (ops := ops) ops.toList 0 tm H snaps R0 (fun j => by simp) htr
  rw [htr, hps] at h
  -- the states, by number
  have hsn : ∀ i, i < snaps.length → snaps[i]? = some ((snaps.getD i (tm, H)).1, (snaps.getD i (tm, H)).2) := fun i hi => by simp [hi]
  have hT0 : (snaps.getD 0 (tm, H)) = (tm, H) := by rw [List.getD_eq_getElem?_getD, t1]; rfl
  have key : ∃ M, M ≤ ops.size ∧ snaps.length = M + 1 ∧ Fin P call ops M (fun i => (snaps.getD i (tm, H)).1) (fun i => (snaps.getD i (tm, H)).2) R.heap.n R ∧
      (∀ i j, i < M → j < M → (i, j) ∈ ps → pairOk P ops snaps i j = true) := by
    cases R0 with
    | go tm' H' =>
      dsimp only at h
      split at h <;> try (cases h; done)
      rename_i hall
      simp only [Option.some.injEq] at h; subst h
      obtain ⟨l1, l2⟩ := t3 tm' H' rfl
      have l1' : snaps.length = ops.size + 1 := by rw [l1]; simp
      have l2' : snaps[ops.size]? = some (tm', H') := by simpa using l2
      have l3 : snaps.getD ops.size (tm, H) = (tm', H') := by rw [List.getD_eq_getElem?_getD, l2']; rfl
      refine ⟨ops.size, Nat.le_refl _, l1', .inl ⟨rfl, ?_, ?_⟩, fun i j _ _ hm => ?_⟩
      · dsimp only; rw [l3]
      · dsimp only; rw [l3]; rfl
      · exact List.all_eq_true.1 hall (i, j) hm
    | pan p H' =>
      dsimp only at h
      split at h <;> try (cases h; done)
      rename_i hall
      simp only [Option.some.injEq] at h; subst h
      obtain ⟨j, o, s, l1, l2, l3, l4⟩ := t4 p H' rfl
      have hj : j < ops.size := by
        have := (List.getElem?_eq_some_iff.1 l2).1
        simpa using this
      rw [Bool.and_eq_true] at hall
      obtain ⟨hlast, hall⟩ := hall
      rw [l1, show j + 1 - 1 = j from by omega] at hlast hall
      refine ⟨j, by omega, l1, .inr ⟨o, p, H', by simpa using l2, ?_, rfl, rfl, fun i oi hoi hlt => ?_⟩, fun i j' h1 h2 hm => ?_⟩
      · have l5 : snaps.getD j (tm, H) = s := by rw [List.getD_eq_getElem?_getD, l3]; rfl
        dsimp only; rw [l5]; exact l4
      · unfold lastly at hlast
        have := List.all_eq_true.1 hlast i (by simpa using (Array.getElem?_eq_some_iff.1 hoi).1)
        simp only [Bool.or_eq_true, decide_eq_true_eq] at this
        exact this.resolve_left (by omega)
      · have := List.all_eq_true.1 hall (i, j') hm
        simp only [decide_eq_true_eq] at this
        exact this (by simp [h1, h2])
  obtain ⟨M, hMs, hlen, hfin, hpair⟩ := key
  generalize hT : (fun i => (snaps.getD i (tm, H)).1) = T at *
  generalize hG : (fun i => (snaps.getD i (tm, H)).2) = G at *
  have hsn' : ∀ i, i < snaps.length → snaps[i]? = some (T i, G i) := fun i hi => by rw [← hT, ← hG]; exact hsn i hi
  have hTz : T 0 = tm := by rw [← hT]; show (snaps.getD 0 (tm, H)).1 = tm; rw [hT0]
  have hGz : G 0 = H := by rw [← hG]; show (snaps.getD 0 (tm, H)).2 = H; rw [hT0]
  have htrace : Trace P call ops M T G := by
    refine ⟨fun i hi => ?_, by rw [hGz]; exact hw⟩
    have ho : ops[i]? = some ops[i] := by simp [show i < ops.size from by omega]
    exact ⟨ops[i], ho, t2 i ops[i] (T i, G i) (T (i + 1), G (i + 1)) (by simp) (hsn' i (by omega)) (hsn' (i + 1) (by omega))⟩
  have hwfM := htrace.wf hcall M (Nat.le_refl _)
  have hRn : R.heap.wf ∧ (G M).n ≤ R.heap.n := by
    rcases hfin with ⟨hM, hR, hE⟩ | ⟨o, p, H', ho, hs, hR, hE, hlast⟩
    · rw [hR]; exact ⟨hwfM, Nat.le_refl _⟩
    · obtain ⟨g1, g2, _⟩ := step_ok hcall hs hwfM
      rw [hR]; exact ⟨g1, g2⟩
  have D : DR P call ops M T G R.heap.n := by
    refine ⟨htrace, hcall, hok, fun i j oi oj h1 h2 h3 h4 => ?_, fun i j oi oj h1 h2 h3 h4 h5 h6 h7 h8 => ?_, hRn.2⟩
    · obtain ⟨q1, q2, q3, _⟩ := pairs_spec hps i j oi oj h1 h2 h3 h4
      exact ⟨q1, q2, q3⟩
    · obtain ⟨_, _, _, q4⟩ := pairs_spec hps i j oi oj h3 h4 h5 h6
      exact pairOk_spec (hpair i j h1 h2 (q4 h7)) (hsn' i (by omega)) (hsn' j (by omega)) (hsn' (j + 1) (by omega)) h3 h8
  have hmono := htrace.mono hcall 0 M (by omega) (Nat.le_refl _)
  rw [hGz] at hmono
  refine ⟨hRn.1, Nat.le_trans hmono hRn.2, fun E a ht hs hf => wp_region_any hm ?_⟩
  -- the tape
  have e1 := drew_ext (E := E) (w0 := { E.w with drawn := E.w.drawn + 1 }) H.n rfl rfl rfl rfl
  have hmonoV : ∀ x v, V E x v → V { E with w := { E.w with drawn := E.w.drawn + 1 } } x v := fun x v hv => hv.mono e1 (fresh_refl E _)
  have s1 := hs.of_heap (w0 := { E.w with drawn := E.w.drawn + 1 }) rfl hmonoV
  have hInv : Inv P ops M T G R.heap.n E a (ops.toList.filterMap (·.dst)) (Lst (Array.replicate ops.size false)) { E with w := { E.w with drawn := E.w.drawn + 1 } } a := by
    have hno : ∀ k, ¬ Lst (Array.replicate ops.size false) k := fun k hk => by
      unfold Lst at hk
      simp only [Array.getD, Array.size_replicate] at hk
      split at hk
      · simp at hk
      · cases hk
    refine ⟨fun k hk => absurd hk (hno k), fun i o ho hk => absurd hk (hno i), ?_, ?_, fun id p h1 h2 h3 => ?_, fun k o hk => absurd hk (hno k), ⟨tm, ?_, by rw [hTz], fun d => ⟨fun ⟨k, o, hk, _⟩ => absurd hk (hno k), fun _ => by rw [hTz]⟩⟩, rfl, rfl, fun _ _ => rfl⟩
    · refine ⟨by rw [hGz]; exact Nat.le_trans hmono hRn.2, fun id hid => rfl, fun id b o g1 g2 g3 => ?_, e1.size, e1.perm, e1.permNew, fun b _ _ => rfl, e1.shape, rfl, rfl, rfl⟩
      rw [hGz] at g1
      have := hf id g1 g2
      have g3' : E.mu id = some (b, o) := g3
      rw [this] at g3'; cases g3'
    · have : gS M G (Lst (Array.replicate ops.size false)) = H.get := funext fun id => by
        rw [content_eq (t := 0) (Nat.zero_le _) (fun k hk => by omega) (fun k _ _ hk => absurd hk (hno k)), hGz]
      rw [this]; exact s1
    · rw [hGz] at h2
      have := hf id h2 h3
      have h1' : E.mu id = some p := h1
      rw [this] at h1'; cases h1'
    · exact ⟨ht.1, fun j x v g1 g2 => hmonoV _ _ (ht.2 j x v g1 g2)⟩
  have := any_ok D hfin (fun i o ho d hd => List.mem_filterMap.2 ⟨o, by
    have := Array.mem_of_getElem? ho
    simpa using this, hd⟩) ops.size (Array.replicate ops.size false) { E with w := { E.w with drawn := E.w.drawn + 1 } } a (by simp) (by
      refine Nat.le_trans (List.length_filter_le _ _) ?_
      simp) hInv
  rw [hGz] at this
  exact this
end Go.Ab

/- The abstract machine: code. -/
namespace Go.Ab
set_option linter.unusedSectionVars false
variable [HasBase]
set_option linter.unusedVariables false
set_option linter.unusedSimpArgs false

variable {P : Program}

def ExitR (E : Env) (tm : List AV) : AX → Exit → Act → Prop
  | .normal, .normal, a => TM E tm a.tmps
  | .exit i, .exit j, a => i = j ∧ TM E tm a.tmps
  | .ret, .ret, a => TM E tm a.tmps
  | .pan p, .panic ch, _ => ∃ v, ch = [{ v, recovered := false }] ∧ V E p v
  | _, _, _ => False

/-- What a piece of code comes to. -/
structure CPost (E0 : Env) (n0 : Nat) (a0 : Act) (D : List Tmp) (r : AX × List AV × Heap) (e : Exit) (a : Act) (w : World) : Prop where
  ex : ∃ E, E.w = w ∧ Ext E0 E n0 r.2.2.n ∧ Sat E r.2.2.get ∧ ExitR E r.2.1 r.1 e a
  defers : a.defers = a0.defers
  size : a.tmps.size = a0.tmps.size
  keep : ∀ t, t ∉ D → a.tmps[t]? = a0.tmps[t]?

theorem CPost.trans {E0 E1 : Env} {n0 n1 : Nat} {a0 a1 : Act} {D1 D2 D : List Tmp} {r : AX × List AV × Heap} {e : Exit} {a : Act} {w : World} (h : CPost E1 n1 a1 D2 r e a w) (hext : Ext E0 E1 n0 n1) (hf : Fresh E0 n0 r.2.2.n)
    (hd : a1.defers = a0.defers) (hs : a1.tmps.size = a0.tmps.size) (hk : ∀ t, t ∉ D1 → a1.tmps[t]? = a0.tmps[t]?) (h1 : ∀ t, t ∈ D1 → t ∈ D) (h2 : ∀ t, t ∈ D2 → t ∈ D) : CPost E0 n0 a0 D r e a w := by
  obtain ⟨⟨E, hw, hx, hsat, he⟩, g1, g2, g3⟩ := h
  exact ⟨⟨E, hw, hext.trans hx hf, hsat, he⟩, g1.trans hd, g2.trans hs, fun t ht => (g3 t fun h => ht (h2 t h)).trans (hk t fun h => ht (h1 t h))⟩

theorem CPost.mono {E0 : Env} {n0 : Nat} {a0 : Act} {D D' : List Tmp} {r : AX × List AV × Heap} {e : Exit} {a : Act} {w : World} (h : CPost E0 n0 a0 D r e a w) (hD : ∀ t, t ∈ D → t ∈ D') : CPost E0 n0 a0 D' r e a w :=
  ⟨h.ex, h.defers, h.size, fun t ht => h.keep t fun hm => ht (hD t hm)⟩

theorem cpost_here {E : Env} {n : Nat} {a : Act} {tm : List AV} {H : Heap} {ax : AX} {e : Exit} (hn : H.n = n) (hs : Sat E H.get) (hr : ExitR E tm ax e a) (D : List Tmp) : CPost E n a D (ax, tm, H) e a E.w :=
  ⟨⟨E, rfl, by rw [hn]; exact Ext.refl E n, hs, hr⟩, rfl, rfl, fun _ _ => rfl⟩

/-- A loop, by rounds. -/
theorem wp_rounds {c : Code} {Q : Exit → Act → World → Prop} (R : Nat → Act → World → Prop) (round : ∀ n a w, R n a w → c.wp P (Exit.then (fun a' w' => ∃ m, m < n ∧ R m a' w') Q) a w) {n : Nat} {a : Act} {w : World} (h : R n a w) : (Code.loop c).wp P Q a w := by
  have least : ∀ n a w, R n a w → ∃ k, R k a w ∧ ∀ m, R m a w → k ≤ m := by
    intro n
    induction n using Nat.strongRecOn with
    | _ n ih =>
      intro a w h
      by_cases hx : ∃ m, m < n ∧ R m a w
      · obtain ⟨m, h1, h2⟩ := hx
        exact ih m h1 a w h2
      · exact ⟨n, h, fun m hm => Nat.le_of_not_lt fun hlt => hx ⟨m, hlt, hm⟩⟩
  refine wp_loop (fun a w => ∃ n, R n a w) (fun a w => open Classical in if h : ∃ n, R n a w then Classical.choose (least h.choose a w h.choose_spec) else 0) ⟨n, h⟩ ?_
  intro a w hex
  obtain ⟨k1, k2⟩ := Classical.choose_spec (least hex.choose a w hex.choose_spec)
  refine wp_mono (round _ a w k1) fun e a' w' hq => ?_
  cases e with
  | normal =>
    obtain ⟨m, hm, hR⟩ := hq
    refine ⟨⟨m, hR⟩, ?_⟩
    have hex' : ∃ n, R n a' w' := ⟨m, hR⟩
    rw [dif_pos hex', dif_pos hex]
    exact Nat.lt_of_le_of_lt ((Classical.choose_spec (least hex'.choose a' w' hex'.choose_spec)).2 m hR) hm
  | _ => exact hq

/-- What is to be shown of a piece of code. -/
def CodeOK (P : Program) (c : Code) (f : List AV → Heap → Option (AX × List AV × Heap)) : Prop :=
  ∀ tm H r, f tm H = some r → H.wf → r.2.2.wf ∧ H.n ≤ r.2.2.n ∧ ∀ (E : Env) (a : Act), TM E tm a.tmps → Sat E H.get → Fresh E H.n r.2.2.n → c.wp P (CPost E H.n a (dsts c) r) a E.w

theorem iter_wf {body : List AV → Heap → Option (AX × List AV × Heap)} (hb : ∀ tm H r, body tm H = some r → H.wf → r.2.2.wf ∧ H.n ≤ r.2.2.n) : ∀ (n : Nat) (tm : List AV) (H : Heap) (r : AX × List AV × Heap), iter body n tm H = some r → H.wf → r.2.2.wf ∧ H.n ≤ r.2.2.n
  | 0, tm, H, r, h, hw => by simp [iter] at h
  | n + 1, tm, H, r, h, hw => by
    unfold iter at h
    cases hbd : body tm H with
    | none => simp [hbd] at h
    | some x =>
      obtain ⟨ax, tm1, H1⟩ := x
      obtain ⟨h1, h2⟩ := hb tm H _ hbd hw
      rw [hbd] at h
      cases ax with
      | normal =>
        obtain ⟨g1, g2⟩ := iter_wf hb n tm1 H1 r h h1
        exact ⟨g1, Nat.le_trans h2 g2⟩
      | _ => cases h; exact ⟨h1, h2⟩

theorem loop_ok {c : Code} {body : List AV → Heap → Option (AX × List AV × Heap)} (hc : CodeOK P c body) (N : Nat) : CodeOK P (.loop c) (iter body N) := by
  have hb : ∀ tm H r, body tm H = some r → H.wf → r.2.2.wf ∧ H.n ≤ r.2.2.n := fun tm H r h hw => ⟨(hc tm H r h hw).1, (hc tm H r h hw).2.1⟩
  intro tm H r h hw
  obtain ⟨h1, h2⟩ := iter_wf hb N tm H r h hw
  refine ⟨h1, h2, fun E a ht hs hf => ?_⟩
  refine wp_rounds (fun n a' w' => ∃ tm' H' E', E'.w = w' ∧ iter body n tm' H' = some r ∧ H'.wf ∧ Ext E E' H.n H'.n ∧ TM E' tm' a'.tmps ∧ Sat E' H'.get ∧ a'.defers = a.defers ∧ a'.tmps.size = a.tmps.size ∧ ∀ t, t ∉ dsts c → a'.tmps[t]? = a.tmps[t]?)
    (fun n a' w' hR => ?_) ⟨tm, H, E, rfl, h, hw, Ext.refl E _, ht, hs, rfl, rfl, fun _ _ => rfl⟩
  obtain ⟨tm', H', E', rfl, hit, hw', hext, ht', hs', hd', hsz', hk'⟩ := hR
  cases n with
  | zero => simp [iter] at hit
  | succ n =>
    obtain ⟨g1, g2⟩ := iter_wf hb (n + 1) tm' H' r hit hw'
    have hfr : Fresh E' H'.n r.2.2.n := hext.fresh (hf.mono hext.le (Nat.le_refl _)) (.inl (Nat.le_refl _))
    unfold iter at hit
    cases hbd : body tm' H' with
    | none => simp [hbd] at hit
    | some x =>
      obtain ⟨ax, tm1, H1⟩ := x
      obtain ⟨k1, k2, k3⟩ := hc tm' H' _ hbd hw'
      rw [hbd] at hit
      cases ax with
      | normal =>
        dsimp only at hit
        obtain ⟨q1, q2⟩ := iter_wf hb n tm1 H1 r hit k1
        refine wp_mono (k3 E' a' ht' hs' (hfr.mono (Nat.le_refl _) q2)) fun e a'' w'' hq => ?_
        obtain ⟨⟨E'', hw'', hx, hsat, hex⟩, p1, p2, p3⟩ := hq
        cases e <;> try (exact hex.elim)
        exact ⟨n, by omega, tm1, H1, E'', hw'', hit, k1, hext.trans hx (hf.mono (Nat.le_refl _) q2), hex, hsat, p1.trans hd', p2.trans hsz', fun t ht => (p3 t ht).trans (hk' t ht)⟩
      | _ =>
        cases hit
        refine wp_mono (k3 E' a' ht' hs' hfr) fun e a'' w'' hq => ?_
        have hq' := hq.trans (D1 := dsts c) (D := dsts (.loop c)) hext hf hd' hsz' hk' (fun t h => h) (fun t h => h)
        obtain ⟨⟨E'', hw'', hx, hsat, hex⟩, p1, p2, p3⟩ := hq
        cases e <;> first
          | exact hex.elim
          | exact hq'

theorem code_ok {call : CallFn} (hcall : CallOK P call) (hm : P.follows .mixedOrders = true) (n : Nat) : ∀ (c : Code), CodeOK P c (runCode P call n c)
  | .skip => fun tm H r h hw => by
    simp only [runCode, Option.some.injEq] at h; subst h
    exact ⟨hw, Nat.le_refl _, fun E a ht hs hf => wp_skip (cpost_here (ax := .normal) (e := .normal) (tm := tm) rfl hs ht _)⟩
  | .label l => fun tm H r h hw => by
    simp only [runCode, Option.some.injEq] at h; subst h
    exact ⟨hw, Nat.le_refl _, fun E a ht hs hf => wp_label (cpost_here (ax := .normal) (e := .normal) (tm := tm) rfl hs ht _)⟩
  | .exit id => fun tm H r h hw => by
    simp only [runCode, Option.some.injEq] at h; subst h
    exact ⟨hw, Nat.le_refl _, fun E a ht hs hf => wp_exit (cpost_here (ax := .exit id) (e := .exit id) (tm := tm) rfl hs ⟨rfl, ht⟩ _)⟩
  | .ret => fun tm H r h hw => by
    simp only [runCode, Option.some.injEq] at h; subst h
    exact ⟨hw, Nat.le_refl _, fun E a ht hs hf => wp_ret (cpost_here (ax := .ret) (e := .ret) (tm := tm) rfl hs ht _)⟩
  | .region id ops draw => fun tm H r h hw => by
    simp only [runCode] at h
    have post : ∀ (R : SR), ofSR tm (some R) = some r → r.2.2 = R.heap ∧ ∀ (E : Env) (a : Act) e a' w', RPost E H.n a (ops.toList.filterMap (·.dst)) R e a' w' → CPost E H.n a (ops.toList.filterMap (·.dst)) r e a' w' := by
      intro R hR
      cases R with
      | go tm' H' =>
        simp only [ofSR, Option.some.injEq] at hR; subst hR
        refine ⟨rfl, fun E a e a' w' ⟨⟨E', hw', hx, hsat, hex⟩, p1, p2, p3⟩ => ⟨⟨E', hw', hx, hsat, ?_⟩, p1, p2, p3⟩⟩
        cases e <;> first
          | exact hex.elim
          | exact hex
      | pan p H' =>
        simp only [ofSR, Option.some.injEq] at hR; subst hR
        refine ⟨rfl, fun E a e a' w' ⟨⟨E', hw', hx, hsat, hex⟩, p1, p2, p3⟩ => ⟨⟨E', hw', hx, hsat, ?_⟩, p1, p2, p3⟩⟩
        cases e <;> first
          | exact hex.elim
          | exact hex
    cases draw with
    | true =>
      dsimp only at h
      cases hR : runDraw P call ops tm H with
      | none => simp [hR, ofSR] at h
      | some R =>
        rw [hR] at h
        obtain ⟨h1, h2, h3⟩ := region_draw hcall hm hR hw id
        obtain ⟨g1, g2⟩ := post R h
        rw [g1]
        exact ⟨h1, h2, fun E a ht hs hf => wp_mono (h3 E a ht hs hf) fun e a' w' hq => g2 E a e a' w' hq⟩
    | false =>
      dsimp only at h
      cases hR : runOps P call ops ops.toList tm H with
      | none => simp [hR, ofSR] at h
      | some R =>
        rw [hR] at h
        obtain ⟨h1, h2, h3⟩ := region_text hcall hR hw id
        obtain ⟨g1, g2⟩ := post R h
        rw [g1]
        exact ⟨h1, h2, fun E a ht hs hf => wp_mono (h3 E a ht hs hf) fun e a' w' hq => g2 E a e a' w' hq⟩
  | .seq x y => fun tm H r h hw => by
    simp only [runCode] at h
    cases hx : runCode P call n x tm H with
    | none => simp [hx] at h
    | some r1 =>
      obtain ⟨ax, tm1, H1⟩ := r1
      obtain ⟨h1, h2, h3⟩ := code_ok hcall hm n x tm H _ hx hw
      rw [hx] at h
      cases ax with
      | normal =>
        dsimp only at h
        obtain ⟨g1, g2, g3⟩ := code_ok hcall hm n y tm1 H1 _ h h1
        refine ⟨g1, Nat.le_trans h2 g2, fun E a ht hs hf => wp_seq (wp_mono (h3 E a ht hs (hf.mono (Nat.le_refl _) g2)) fun e a' w' hq => ?_)⟩
        obtain ⟨⟨E', hw', hext, hsat, hex⟩, p1, p2, p3⟩ := hq
        cases e <;> try (exact hex.elim)
        subst hw'
        refine wp_mono (g3 E' a' hex hsat (hext.fresh (hf.mono h2 (Nat.le_refl _)) (.inl (Nat.le_refl _)))) fun e a'' w'' hq2 => ?_
        exact hq2.trans (D1 := dsts x) hext hf p1 p2 p3 (fun t ht => List.mem_append_left _ ht) (fun t ht => List.mem_append_right _ ht)
      | _ =>
        cases h
        refine ⟨h1, h2, fun E a ht hs hf => wp_seq (wp_mono (h3 E a ht hs hf) fun e a' w' hq => ?_)⟩
        have hq' := hq.mono (D' := dsts (.seq x y)) fun t ht => List.mem_append_left _ ht
        obtain ⟨⟨E', hw', hext, hsat, hex⟩, p1, p2, p3⟩ := hq
        cases e <;> first
          | exact hex.elim
          | exact hq'
  | .cond c x y => fun tm H r h hw => by
    simp only [runCode] at h
    split at h <;> try (cases h; done)
    · rename_i hc
      obtain ⟨h1, h2, h3⟩ := code_ok hcall hm n x tm H _ h hw
      exact ⟨h1, h2, fun E a ht hs hf => wp_cond_true (ev_spec ht hc).bool_inv (wp_mono (h3 E a ht hs hf) fun e a' w' hq => hq.mono fun t ht => List.mem_append_left _ ht)⟩
    · rename_i hc
      obtain ⟨h1, h2, h3⟩ := code_ok hcall hm n y tm H _ h hw
      exact ⟨h1, h2, fun E a ht hs hf => wp_cond_false (ev_spec ht hc).bool_inv (wp_mono (h3 E a ht hs hf) fun e a' w' hq => hq.mono fun t ht => List.mem_append_right _ ht)⟩
  | .block id b => fun tm H r h hw => by
    simp only [runCode] at h
    cases hx : runCode P call n b tm H with
    | none => simp [hx] at h
    | some r1 =>
      obtain ⟨ax, tm1, H1⟩ := r1
      obtain ⟨h1, h2, h3⟩ := code_ok hcall hm n b tm H _ hx hw
      rw [hx] at h
      cases ax with
      | exit i =>
        dsimp only at h
        by_cases hid : i = id
        · rw [if_pos hid] at h
          cases h
          refine ⟨h1, h2, fun E a ht hs hf => wp_block (wp_mono (h3 E a ht hs hf) fun e a' w' hq => ?_)⟩
          obtain ⟨⟨E', hw', hext, hsat, hex⟩, p1, p2, p3⟩ := hq
          cases e <;> try (exact hex.elim)
          obtain ⟨rfl, htm⟩ := hex
          simp only [Exit.inBlock, hid, if_true]
          exact ⟨⟨E', hw', hext, hsat, htm⟩, p1, p2, p3⟩
        · rw [if_neg hid] at h
          cases h
          refine ⟨h1, h2, fun E a ht hs hf => wp_block (wp_mono (h3 E a ht hs hf) fun e a' w' hq => ?_)⟩
          obtain ⟨⟨E', hw', hext, hsat, hex⟩, p1, p2, p3⟩ := hq
          cases e <;> try (exact hex.elim)
          obtain ⟨rfl, htm⟩ := hex
          simp only [Exit.inBlock, hid, if_false]
          exact ⟨⟨E', hw', hext, hsat, rfl, htm⟩, p1, p2, p3⟩
      | _ =>
        cases h
        refine ⟨h1, h2, fun E a ht hs hf => wp_block (wp_mono (h3 E a ht hs hf) fun e a' w' hq => ?_)⟩
        obtain ⟨⟨E', hw', hext, hsat, hex⟩, p1, p2, p3⟩ := hq
        cases e <;> first
          | exact hex.elim
          | exact ⟨⟨E', hw', hext, hsat, hex⟩, p1, p2, p3⟩
  | .loop b => fun tm H r h hw => by
    simp only [runCode] at h
    exact loop_ok (fun tm H r h hw => code_ok hcall hm n b tm H r h hw) n tm H r h hw
  | .scope b => fun tm H r h hw => by
    simp only [runCode] at h
    obtain ⟨h1, h2, h3⟩ := code_ok hcall hm n b tm H _ h hw
    refine ⟨h1, h2, fun E a ht hs hf => wp_scope_straight (wp_mono (h3 E a ht hs hf) fun e a' w' hq => ?_)⟩
    cases e with
    | goto l =>
      obtain ⟨⟨E', hw', hext, hsat, hex⟩, _⟩ := hq
      generalize r.1 = ax at hex
      cases ax <;> exact hex.elim
    | _ => exact hq
  | .goto l => fun tm H r h hw => by simp [runCode] at h
  | .rangeFunc _ _ _ _ => fun tm H r h hw => by simp [runCode] at h
  | .refuse _ => fun tm H r h hw => by simp [runCode] at h
end Go.Ab

/- The abstract machine: values as trees, for a call that keeps to itself. -/
namespace Go.Ab
set_option linter.unusedSectionVars false
variable [HasBase]
set_option linter.unusedVariables false
set_option linter.unusedSimpArgs false

variable {P : Program}

theorem Cl.mono {t u : Bool} {x : AV} (h : Cl u x) : (u = true → t = true) → Cl t x := by
  induction h generalizing t with
  | undef => intro _; exact .undef _
  | bool => intro _; exact .bool _ _
  | int => intro _; exact .int _ _ _
  | str => intro _; exact .str _ _
  | nilp => intro _; exact .nilp _
  | nils => intro _; exact .nils _
  | nilm => intro _; exact .nilm _
  | nilf => intro _; exact .nilf _
  | nili => intro _; exact .nili _
  | eptr t' u' cs off h1 h2 _ => intro h; exact .eptr _ _ _ _ (fun hu => h (h1 hu)) h2
  | isl t' u' rows h1 h2 _ => intro h; exact .isl _ _ _ (fun hu => h (h1 hu)) h2
  | fn t' f cap h1 ih => intro h; exact .fn _ _ _ fun x hx => ih x hx h
  | ifc t' ty v h1 ih => intro h; exact .ifc _ _ _ (ih h)
  | agg t' cs h1 ih => intro h; exact .agg _ _ fun x hx => ih x hx h
  | tup t' cs h1 ih => intro h; exact .tup _ _ fun x hx => ih x hx h

/-- From E's values to Ex's: the worlds are the same, E's own blocks are no more written. -/
structure Frz (E Ex : Env) (tmp : Bool) : Prop where
  w : Ex.w = E.w
  imm : ∀ t b, (t = true → tmp = true) → E.imm t b → Ex.imm t b
  own : ∀ b, b < E.w.heap.size → E.own b → Ex.imm tmp b

variable {E Ex : Env} {tmp : Bool}

theorem cl_V (F : Frz E Ex tmp) {x : AV} {v : Value} (hv : V E x v) : Cl tmp x → V Ex x v := by
  induction hv with
  | undef => intro _; exact .undef
  | bool b => intro _; exact .bool b
  | int k n => intro _; exact .int k n
  | str l s e => intro _; exact .str l s e
  | ptr => intro h; cases h
  | eptr t cs off b o vs hi hc hcl hcell _ ih =>
    intro h
    cases h with
    | eptr _ _ _ _ h1 h2 => exact .eptr t cs off b o vs (F.imm t b h1 hi) hc hcl (fun j x hj => by rw [F.w]; exact hcell j x hj) fun j x hj => ih j x hj ((h2 x (List.mem_of_getElem? hj)).mono h1)
  | nilp => intro _; exact .nilp
  | sl => intro h; cases h
  | islE t a cap => intro _; exact .islE t a cap
  | isl t rows esz b o cap vs hi hr hc hcl hl hcell _ ih =>
    intro h
    cases h with
    | isl _ _ _ h1 h2 => exact .isl t rows esz b o cap vs (F.imm t b h1 hi) hr hc hcl hl (fun j x hj => by rw [F.w]; exact hcell j x hj) fun j x hj => ih j x hj (by
        have hm := List.mem_of_getElem? hj
        rw [List.mem_flatten] at hm
        obtain ⟨r, hr1, hr2⟩ := hm
        exact (h2 r x hr1 hr2).mono h1)
  | nils => intro _; exact .nils
  | map => intro h; cases h
  | nilm => intro _; exact .nilm
  | fn f cap vs hl _ ih =>
    intro h
    cases h with
    | fn _ _ _ h1 => exact .fn f cap vs hl fun j x v hx hv => ih j x v hx hv (h1 x (List.mem_of_getElem? hx))
  | nilf => intro _; exact .nilf
  | ifc t x v _ ih =>
    intro h
    cases h with
    | ifc _ _ _ h1 => exact .ifc t x v (ih h1)
  | nili => intro _; exact .nili
  | agg cs vs hl _ ih =>
    intro h
    cases h with
    | agg _ _ h1 => exact .agg cs vs hl fun j x v hx hv => ih j x v hx hv (h1 x (List.mem_of_getElem? hx))
  | tup cs vs hl _ ih =>
    intro h
    cases h with
    | tup _ _ h1 => exact .tup cs vs hl fun j x v hx hv => ih j x v hx hv (h1 x (List.mem_of_getElem? hx))

theorem chunk_spec (esz : Nat) (he : 0 < esz) : ∀ (n : Nat) (cs : List AV), cs.length = n * esz → (chunk esz n cs).length = n ∧ (∀ r, r ∈ chunk esz n cs → r.length = esz) ∧ (chunk esz n cs).flatten = cs
  | 0, cs, h => by
    have : cs = [] := List.length_eq_zero_iff.1 (by omega)
    subst this
    exact ⟨rfl, by simp [chunk], rfl⟩
  | n + 1, cs, h => by
    rw [Nat.succ_mul] at h
    obtain ⟨h1, h2, h3⟩ := chunk_spec esz he n (cs.drop esz) (by simp; omega)
    refine ⟨by simp [chunk, h1], fun r hr => ?_, ?_⟩
    · simp only [chunk, List.mem_cons] at hr
      rcases hr with rfl | hr
      · simp; omega
      · exact h2 r hr
    · simp only [chunk, List.flatten_cons, h3, List.take_append_drop]

/-- One value: frozen. -/
def FrzV (E Ex : Env) (tmp : Bool) (x x' : AV) : Prop := (x.isCell = true → x'.isCell = true) ∧ ∀ v, V E x v → Cl tmp x' ∧ V Ex x' v

theorem frz_ok (F : Frz E Ex tmp) {H : Heap} (hs : Sat E H.get) : ∀ k, (∀ x x', frz tmp H k x = some x' → FrzV E Ex tmp x x') ∧
    (∀ l l', frzs tmp H k l = some l' → l.length = l'.length ∧ ∀ (j : Nat) x x', l[j]? = some x → l'[j]? = some x' → FrzV E Ex tmp x x')
  | 0 => ⟨fun x x' h => by simp [frz] at h, fun l l' h => by simp [frzs] at h⟩
  | k + 1 => by
    obtain ⟨ih1, ih2⟩ := frz_ok F hs k
    -- lists of parts
    have many : ∀ cs cs', frzs tmp H k cs = some cs' → ∀ vs : List Value, VL E cs vs → (∀ x, x ∈ cs' → Cl tmp x) ∧ VL Ex cs' vs := by
      intro cs cs' h vs hv
      obtain ⟨h1, h2⟩ := ih2 cs cs' h
      have key : ∀ (j : Nat) x', cs'[j]? = some x' → ∃ x v, cs[j]? = some x ∧ vs[j]? = some v ∧ Cl tmp x' ∧ V Ex x' v := fun j x' hj => by
        have hlt : j < cs.length := by rw [h1]; exact (List.getElem?_eq_some_iff.1 hj).1
        have hx : cs[j]? = some cs[j] := by simp [hlt]
        obtain ⟨v, g1, g2⟩ := hv.get hx
        obtain ⟨g3, g4⟩ := (h2 j cs[j] x' hx hj).2 v g2
        exact ⟨cs[j], v, hx, g1, g3, g4⟩
      refine ⟨fun x hx => ?_, by rw [← h1]; exact hv.1, fun j x' v hx hv' => ?_⟩
      · obtain ⟨j, hj⟩ := List.mem_iff_getElem?.1 hx
        obtain ⟨_, _, _, _, g, _⟩ := key j x hj
        exact g
      · obtain ⟨_, v', _, g1, _, g2⟩ := key j x' hx
        rw [hv'] at g1; cases g1
        exact g2
    refine ⟨fun x x' h => ?_, fun l l' h => ?_⟩
    · unfold frz at h
      split at h <;> try (cases h; done)
      · -- a slice
        rename_i id off len esz
        split at h <;> try (cases h; done)
        rename_i bx e0 cs hg
        dsimp only at h
        split at h <;> try (cases h; done)
        rename_i hc
        obtain ⟨hlen, he⟩ := hc
        split at h <;> try (cases h; done)
        rename_i cs' hcs
        simp only [Option.some.injEq] at h; subst h
        refine ⟨fun _ => rfl, fun v hv => ?_⟩
        obtain ⟨hl1, hl2⟩ := ih2 _ _ hcs
        cases hv with
        | sl _ _ off' _ cap _ b o e2 n hm hlc ho hsh hroom =>
          obtain ⟨c, lo, hi, hr⟩ := hs.row hm hg
          have hat := hr.at_.sub off (len * esz)
          obtain ⟨vs, hv1, hv2⟩ := hat.vals
          obtain ⟨m1, m2⟩ := many _ _ hcs vs hv1
          have hcl : cs'.length = len * esz := by rw [← hl1]; exact hlen
          obtain ⟨k1, k2, k3⟩ := chunk_spec esz he len cs' hcl
          have hmem : ∀ r x, r ∈ chunk esz len cs' → x ∈ r → x ∈ cs' := fun r x h1 h2 => by
            rw [← k3]; exact List.mem_flatten.2 ⟨r, h1, h2⟩
          refine ⟨.isl _ _ _ (fun h => h) fun r x h1 h2 => m1 x (hmem r x h1 h2), ?_⟩
          by_cases hl0 : len = 0
          · subst hl0
            exact .islE _ _ _
          · have hoff : off' = off := by rcases ho with h | h <;> omega
            subst hoff
            have hcellAll : ∀ x, x ∈ cs' → x.isCell = true := fun x hx => by
              obtain ⟨j, hj⟩ := List.mem_iff_getElem?.1 hx
              have hjl : j < ((cs.drop off').take (len * esz)).length := by rw [hl1]; exact (List.getElem?_eq_some_iff.1 hj).1
              have hx0 : ((cs.drop off').take (len * esz))[j]? = some (((cs.drop off').take (len * esz))[j]) := List.getElem?_eq_getElem hjl
              exact (hl2 j _ x hx0 hj).1 (hat.isCell _ (List.mem_of_getElem? hx0))
            have := V.isl (E := Ex) tmp (chunk esz len cs') esz b (o + off') cap (fun j => vs.getD j undef) (F.own b (hs.muLt id b o hm) ⟨id, o, hm⟩) k2 (fun r x h1 h2 => hcellAll x (hmem r x h1 h2)) (fun r x h1 h2 => m1 x (hmem r x h1 h2)) (by omega)
              (fun j x hj => by
                rw [k3] at hj
                obtain ⟨v, g1, g2⟩ := m2.get hj
                rw [F.w, hv2 j v g1, List.getD_eq_getElem?_getD, g1]; rfl)
              (fun j x hj => by
                rw [k3] at hj
                obtain ⟨v, g1, g2⟩ := m2.get hj
                rw [List.getD_eq_getElem?_getD, g1]; exact g2)
            rwa [k1] at this
      · rename_i t rows
        split at h <;> try (cases h; done)
        rename_i hc
        simp only [Option.some.injEq] at h; subst h
        refine ⟨fun h => h, fun v hv => ?_⟩
        have ht : t = true → tmp = true := fun ht => by subst ht; simpa using hc
        have hcl : Cl tmp (.isl t rows) := by
          cases hv with
          | islE => exact .isl _ _ _ ht fun r x h => by cases h
          | isl _ _ _ _ _ _ _ _ _ _ hcl => exact .isl _ _ _ ht hcl
        exact ⟨hcl, cl_V F hv hcl⟩
      · rename_i t cs off
        split at h <;> try (cases h; done)
        rename_i hc
        simp only [Option.some.injEq] at h; subst h
        refine ⟨fun h => h, fun v hv => ?_⟩
        have ht : t = true → tmp = true := fun ht => by subst ht; simpa using hc
        have hcl : Cl tmp (.eptr t cs off) := by
          cases hv with
          | eptr _ _ _ _ _ _ _ _ hcl => exact .eptr _ _ _ _ ht hcl
        exact ⟨hcl, cl_V F hv hcl⟩
      · rename_i f cap
        split at h <;> try (cases h; done)
        rename_i cap' hcs
        simp only [Option.some.injEq] at h; subst h
        refine ⟨fun h => h, fun v hv => ?_⟩
        obtain ⟨vs, rfl, hvl⟩ := hv.fn_inv
        obtain ⟨m1, m2⟩ := many _ _ hcs _ hvl
        exact ⟨.fn _ _ _ m1, by have := V.mkFn (f := f) m2; simpa using this⟩
      · rename_i t x
        split at h <;> try (cases h; done)
        rename_i x' hx
        simp only [Option.some.injEq] at h; subst h
        refine ⟨fun h => h, fun v hv => ?_⟩
        cases hv with
        | ifc _ _ u hu =>
          obtain ⟨g1, g2⟩ := (ih1 x x' hx).2 u hu
          exact ⟨.ifc _ _ _ g1, .ifc _ _ _ g2⟩
      · rename_i cs
        split at h <;> try (cases h; done)
        rename_i cs' hcs
        simp only [Option.some.injEq] at h; subst h
        refine ⟨fun h => h, fun v hv => ?_⟩
        obtain ⟨vs, rfl, hvl⟩ := hv.agg_inv
        obtain ⟨m1, m2⟩ := many _ _ hcs _ hvl
        exact ⟨.agg _ _ m1, by have := V.mkAgg m2; simpa using this⟩
      · rename_i cs
        split at h <;> try (cases h; done)
        rename_i cs' hcs
        simp only [Option.some.injEq] at h; subst h
        refine ⟨fun h => h, fun v hv => ?_⟩
        obtain ⟨vs, rfl, hvl⟩ := hv.tup_inv
        obtain ⟨m1, m2⟩ := many _ _ hcs _ hvl
        exact ⟨.tup _ _ m1, by have := V.mkTup m2; simpa using this⟩
      · rename_i n1 n2 n3 n4 n5 n6 n7 n8 n9
        simp only [Option.some.injEq] at h; subst h
        refine ⟨fun h => h, fun v hv => ?_⟩
        have hcl : Cl tmp x := by
          cases hv with
          | undef => exact .undef _
          | bool => exact .bool _ _
          | int => exact .int _ _ _
          | str => exact .str _ _
          | nilp => exact .nilp _
          | nils => exact .nils _
          | nilm => exact .nilm _
          | nilf => exact .nilf _
          | nili => exact .nili _
          | _ => exfalso; first | exact n1 _ _ _ _ rfl | exact n2 _ _ rfl | exact n3 _ _ _ rfl | exact n4 _ _ rfl | exact n5 _ rfl | exact n6 _ _ rfl | exact n7 _ _ rfl | exact n8 _ rfl | exact n9 _ rfl
        exact ⟨hcl, cl_V F hv hcl⟩
    · unfold frzs at h
      split at h
      · simp only [Option.some.injEq] at h; subst h
        exact ⟨rfl, fun j x x' hx => by simp at hx⟩
      · rename_i x xs
        split at h <;> try (cases h; done)
        rename_i y hy
        split at h <;> try (cases h; done)
        rename_i ys hys
        simp only [Option.some.injEq] at h; subst h
        obtain ⟨g1, g2⟩ := ih2 xs ys hys
        refine ⟨by simp [g1], fun j a a' ha ha' => ?_⟩
        cases j with
        | zero => simp at ha ha'; subst ha; subst ha'; exact ih1 x y hy
        | succ j => exact g2 j a a' (by simpa using ha) (by simpa using ha')
end Go.Ab

/- The abstract machine: calls. -/
namespace Go.Ab
set_option linter.unusedSectionVars false
variable [HasBase]
set_option linter.unusedVariables false
set_option linter.unusedSimpArgs false

variable {P : Program}

/-- What is to be shown of one call. -/
def BodyOK (P : Program) (f : FuncId) (args : List AV) (H : Heap) (r : CR) (H' : Heap) : Prop :=
  H'.wf ∧ H.n ≤ H'.n ∧ ∀ (E : Env) (vs : Array Value), VL E args vs.toList → Sat E H.get → Fresh E H.n H'.n →
    Calls P f vs E.w fun e w' => ∃ E', E'.w = w' ∧ Ext E E' H.n H'.n ∧ Sat E' H'.get ∧ EndR E' r e

def rvTmp : ResultVar → Tmp
  | .tmp t => t
  | .cell a _ => a

theorem TM.at {E : Env} {tm : List AV} {tmps : Array Value} (ht : TM E tm tmps) (t : Nat) : V E (tm.getD t .undef) (tmps.getD t undef) :=
  ev_spec (a := { tmps := tmps, defers := [] }) ht (x := .tmp t) rfl

theorem res1_ok {E : Env} {tm : List AV} {tmps : Array Value} {H : Heap} {rv : ResultVar} {x : AV} (ht : V E (tm.getD (rvTmp rv) .undef) (tmps.getD (rvTmp rv) undef)) (hs : Sat E H.get) (h : resA1 P tm H rv = some x) :
    ∃ v, ((match rv with
      | .tmp t => pure (tmps.getD t undef)
      | .cell a t => do loadVar t (← asAddr (tmps.getD a undef)) : Sem Value)).run P E.w = .ok v E.w ∧ V E x v := by
  cases rv with
  | tmp t =>
    simp only [resA1, Option.some.injEq] at h; subst h
    exact ⟨_, rfl, ht⟩
  | cell a t =>
    simp only [resA1] at h
    have hV : V E (tm.getD a .undef) (tmps.getD a undef) := ht
    obtain ⟨v, h1, h2⟩ := load_ok (P := P) h hV fun n r _ hr => looks_of hs hr
    refine ⟨v, ?_, h2⟩
    dsimp only
    generalize tmps.getD a undef = u at hV h1 ⊢
    unfold Instr.loadAt at h1
    simp only [Sem.run_bind] at h1 ⊢
    cases hu : (Instr.sureAddr u).run P E.w with
    | halt x w => rw [hu] at h1; cases h1
    | ok ad w =>
      rw [hu] at h1
      cases u <;> try (simp [Instr.sureAddr, stuck, Sem.run] at hu; done)
      rename_i p
      cases p with
      | none => simp [Instr.sureAddr, stuck, Sem.run] at hu
      | some p =>
        have : ad = p ∧ w = E.w := by simpa [Instr.sureAddr, Sem.run, eq_comm] using hu
        obtain ⟨rfl, rfl⟩ := this
        simpa [asAddr, Sem.run_pure] using h1

theorem resM_ok {E : Env} {tm : List AV} {tmps : Array Value} {H : Heap} (hs : Sat E H.get) : ∀ (l : List ResultVar) (xs : List AV), (∀ rv, rv ∈ l → V E (tm.getD (rvTmp rv) .undef) (tmps.getD (rvTmp rv) undef)) → mapO (resA1 P tm H) l = some xs →
    ∃ vs : List Value, (l.mapM fun rv => (match rv with
      | .tmp t => pure (tmps.getD t undef)
      | .cell a t => do loadVar t (← asAddr (tmps.getD a undef)) : Sem Value)).run P E.w = .ok vs E.w ∧ VL E xs vs
  | [], xs, ht, h => by
    simp only [mapO, Option.some.injEq] at h; subst h
    exact ⟨[], rfl, VL.nil E⟩
  | rv :: l, xs, ht, h => by
    simp only [mapO] at h
    split at h <;> try (cases h; done)
    rename_i y hy
    split at h <;> try (cases h; done)
    rename_i ys hys
    simp only [Option.some.injEq] at h; subst h
    obtain ⟨v, h1, h2⟩ := res1_ok (ht rv (List.mem_cons_self ..)) hs hy
    obtain ⟨vs, h3, h4⟩ := resM_ok hs l ys (fun r hr => ht r (List.mem_cons_of_mem _ hr)) hys
    refine ⟨v :: vs, ?_, VL.cons h2 h4⟩
    rw [List.mapM_cons]
    simp only [Sem.run_bind, h1, Result.andThen_ok, h3, Sem.run_pure]

theorem res_ok' {E : Env} {fn : Func} {tm : List AV} {tmps : Array Value} {H : Heap} {x : AV} (ht : ∀ rv, rv ∈ fn.results.toList → V E (tm.getD (rvTmp rv) .undef) (tmps.getD (rvTmp rv) undef)) (hs : Sat E H.get) (h : resA P fn tm H = some x) : ∃ v, (results fn tmps).run P E.w = .ok v E.w ∧ V E x v := by
  unfold resA at h
  have hm : ∀ vs : List Value, ((fn.results.toList.mapM fun rv => (match rv with
      | .tmp t => pure (tmps.getD t undef)
      | .cell a t => do loadVar t (← asAddr (tmps.getD a undef)) : Sem Value))).run P E.w = .ok vs E.w →
      (results fn tmps).run P E.w = .ok (if h : vs.toArray.size = 1 then vs.toArray[0] else .tuple vs.toArray) E.w := by
    intro vs hvs
    unfold results
    rw [← Array.toArray_toList (xs := fn.results)]
    rw [List.mapM_toArray]
    simp only [Sem.run_bind, Sem.run_map]
    erw [hvs]
    rfl
  split at h
  · rename_i v hv
    simp only [Option.some.injEq] at h; subst h
    obtain ⟨vs, h1, h2⟩ := resM_ok hs _ _ ht hv
    obtain ⟨u, us, rfl, h3, h4⟩ := h2.inv
    obtain rfl := h4.inv_nil
    exact ⟨u, by rw [hm _ h1]; rfl, h3⟩
  · rename_i xs hne hv
    simp only [Option.some.injEq] at h; subst h
    obtain ⟨vs, h1, h2⟩ := resM_ok hs _ _ ht hv
    refine ⟨.tuple vs.toArray, ?_, V.mkTup h2⟩
    rw [hm _ h1]
    have : ¬ vs.toArray.size = 1 := by
      intro hl
      have : xs.length = 1 := by rw [h2.1]; simpa using hl
      obtain ⟨a, rfl⟩ := List.length_eq_one_iff.1 this
      exact hne a rfl
    rw [dif_neg this]
  · cases h

theorem res_ok {E : Env} {fn : Func} {tm : List AV} {tmps : Array Value} {H : Heap} {x : AV} (ht : TM E tm tmps) (hs : Sat E H.get) (h : resA P fn tm H = some x) : ∃ v, (results fn tmps).run P E.w = .ok v E.w ∧ V E x v :=
  res_ok' (fun rv _ => ht.at _) hs h

theorem TM.enter {E : Env} {args : List AV} {vs : Array Value} (h : VL E args vs.toList) (n : Nat) : TM E (args ++ List.replicate (n - args.length) .undef) (vs ++ Array.replicate (n - vs.size) undef) := by
  show VL E _ _
  have hl : args.length = vs.size := by have := h.1; simpa using this
  rw [Array.toList_append, Array.toList_replicate, hl]
  exact h.append (VL.replicate E _)

theorem body_ok {call : CallFn} (hcall : CallOK P call) (hm : P.follows .mixedOrders = true) {n : Nat} {f : FuncId} {fn : Func} {args : List AV} {H H' : Heap} {r : CR} (hf : P.funcs[f]? = some fn) (h : callBody P call n fn args H = some (r, H')) (hw : H.wf) : BodyOK P f args H r H' := by
  unfold callBody at h
  split at h <;> try (cases h; done)
  rename_i c hc
  cases hrun : runCode P call n c (args ++ List.replicate (fn.ntmps - args.length) .undef) H with
  | none => simp [hrun] at h
  | some res =>
    obtain ⟨ax, tm, H1⟩ := res
    obtain ⟨h1, h2, h3⟩ := code_ok hcall hm n c _ _ _ hrun hw
    rw [hrun] at h
    have ends : ∀ (ax' : AX), ax = ax' → (ax' = .normal ∨ ax' = .ret) → (match resA P fn tm H1 with
        | some v => some (CR.ret v, H1)
        | none => none) = some (r, H') → BodyOK P f args H r H' := by
      rintro ax' rfl hax h
      split at h <;> try (cases h; done)
      rename_i v hv
      simp only [Option.some.injEq, Prod.mk.injEq] at h
      obtain ⟨rfl, rfl⟩ := h
      refine ⟨h1, h2, fun E vs hvl hs hfr => calls_of_wp hf hc (wp_mono (h3 E _ (TM.enter hvl fn.ntmps) hs hfr) fun e a w hq => ?_)⟩
      obtain ⟨⟨E', hw', hext, hsat, hex⟩, p1, p2, p3⟩ := hq
      subst hw'
      rcases hax with rfl | rfl
      · cases e <;> try (exact hex.elim)
        obtain ⟨u, hu1, hu2⟩ := res_ok (P := P) (fn := fn) hex hsat hv
        exact ⟨p1, u, hu1, E', rfl, hext, hsat, u, rfl, hu2⟩
      · cases e <;> try (exact hex.elim)
        obtain ⟨u, hu1, hu2⟩ := res_ok (P := P) (fn := fn) hex hsat hv
        exact ⟨p1, u, hu1, E', rfl, hext, hsat, u, rfl, hu2⟩
    cases ax with
    | normal => exact ends _ rfl (.inl rfl) h
    | ret => exact ends _ rfl (.inr rfl) h
    | exit i => cases h
    | pan p =>
      simp only [Option.some.injEq, Prod.mk.injEq] at h
      obtain ⟨rfl, rfl⟩ := h
      refine ⟨h1, h2, fun E vs hvl hs hfr => calls_of_wp hf hc (wp_mono (h3 E _ (TM.enter hvl fn.ntmps) hs hfr) fun e a w hq => ?_)⟩
      obtain ⟨⟨E', hw', hext, hsat, hex⟩, p1, p2, p3⟩ := hq
      subst hw'
      cases e <;> try (exact hex.elim)
      obtain ⟨u, hu1, hu2⟩ := hex
      subst hu1
      exact ⟨p1, E', rfl, hext, hsat, u, rfl, hu2⟩

/-- The names that the model takes out of the program's hand. -/
def plainNames (P : Program) : Bool := P.funcs.all fun fn => !(fn.name == "runtime.NumGoroutine")

theorem enter_run (hp : plainNames P = true) {f : FuncId} {fn : Func} (hf : P.funcs[f]? = some fn) (hb : fn.body.isSome = true) (vs : Array Value) (w : World) : (callFunc f vs).run P w = .ok (.enter f vs) w := by
  have hn : (fn.name == "runtime.NumGoroutine") = false := by
    have := Array.all_eq_true_iff_forall_mem.1 hp fn (Array.mem_of_getElem? hf)
    simpa using this
  obtain ⟨c, hc⟩ := Option.isSome_iff_exists.1 hb
  have hn' : ¬ fn.name = "runtime.NumGoroutine" := by simpa using hn
  simp [callFunc, hf, hn', hc]

theorem body_some {call : CallFn} {n : Nat} {fn : Func} {args : List AV} {H H' : Heap} {r : CR} (h : callBody P call n fn args H = some (r, H')) : fn.body.isSome = true := by
  unfold callBody at h
  split at h
  · rename_i c hc; rw [hc]; rfl
  · cases h

/-- A call that keeps to itself. -/
theorem pure_ok {f : FuncId} {args args' : List AV} {H H1 : Heap} {v v' : AV} {k1 k2 : Nat} (hb : BodyOK P f args' Heap.empty (.ret v) H1) (h1 : frzs true H k1 args = some args') (h2 : frz false H1 k2 v = some v') (hw : H.wf) : BodyOK P f args H (.ret v') H := by
  obtain ⟨g1, g2, g3⟩ := hb
  refine ⟨hw, Nat.le_refl _, fun E vs hvl hs hfr => ?_⟩
  -- the callee sees nothing of the caller's blocks
  let Ep : Env := { mu := fun _ => none, perm := E.perm, w := E.w }
  have Fp : Frz E Ep true := ⟨rfl, fun t b _ hi => ⟨hi.1, fun ⟨id, o, hm⟩ => (by cases hm), hi.2.2⟩, fun b hlt _ => ⟨hlt, fun ⟨id, o, hm⟩ => (by cases hm), fun h => by cases h⟩⟩
  obtain ⟨_, fa⟩ := frz_ok (tmp := true) Fp hs k1
  obtain ⟨fa1, fa2⟩ := fa args args' h1
  have hvl' : VL Ep args' vs.toList := by
    refine ⟨by rw [← fa1]; exact hvl.1, fun j x' u hx hu => ?_⟩
    have hlt : j < args.length := by rw [fa1]; exact (List.getElem?_eq_some_iff.1 hx).1
    have hx0 : args[j]? = some args[j] := by simp [hlt]
    exact ((fa2 j _ x' hx0 hx).2 u (hvl.2 j _ u hx0 hu)).2
  have hsp : Sat Ep Heap.empty.get := ⟨fun id b o hm => (by cases hm), hs.permLt, fun b _ ⟨id, o, hm⟩ => (by cases hm), fun id b o hm => (by cases hm), hs.base, fun id id' b o o' hm => (by cases hm)⟩
  refine Calls.mono (g3 Ep vs hvl' hsp fun id _ _ => rfl) ?_
  rintro e w' ⟨E', rfl, hext, hsat, u, rfl, hV⟩
  -- back
  let Er : Env := { mu := E.mu, perm := fun b => E'.perm b ∨ E'.own b, w := E'.w }
  have hnew : ∀ b, E'.own b → E.w.heap.size ≤ b := fun b ⟨id, o, hm⟩ => by
    by_cases hr : 0 ≤ id ∧ id < H1.n
    · rcases hext.muNew id b o (Nat.zero_le _) hr.2 hm with h | ⟨id0, o0, hlt, h⟩
      · exact h
      · cases h
    · rw [hext.muOut id hr] at hm; cases hm
  have hownE : ∀ b, E.own b → b < E.w.heap.size := fun b ⟨id, o, hm⟩ => hs.muLt id b o hm
  have hpermE : ∀ b, E'.perm b → ¬ E.own b := fun b hp ho => by
    rcases hext.permNew b hp with h | h
    · exact hs.permOwn b h ho
    · have h1 := hownE b ho
      have h2 : E.w.heap.size ≤ b := h
      omega
  have Fr : Frz E' Er false := by
    refine ⟨rfl, fun t b ht hi => ⟨hi.1, fun ho => ?_, fun h => .inl (hi.2.2 h)⟩, fun b hlt ho => ⟨hlt, fun hoE => ?_, fun _ => .inr ho⟩⟩
    · have htf : t = false := by cases t <;> simp_all
      exact hpermE b (hi.2.2 htf) ho
    · have h1 := hnew b ho
      have h2 := hownE b hoE
      omega
  have hframe : ∀ b, b < E.w.heap.size → E'.w.heap[b]? = E.w.heap[b]? := fun b hlt => hext.frame b hlt fun id o _ hm => by cases hm
  have hextR : Ext E Er H.n H.n := {
    le := Nat.le_refl _
    muOut := fun _ _ => rfl
    muNew := fun id b o h1 h2 => absurd h2 (by omega)
    size := hext.size
    perm := fun b hb => .inl (hext.perm b hb)
    permNew := fun b hb => by
      rcases hb with hb | hb
      · exact hext.permNew b hb
      · exact .inr (hnew b hb)
    frame := fun b hlt _ => hframe b hlt
    shape := hext.shape
    os := hext.os
    tape := hext.tape
    output := hext.output }
  have hmono : ∀ x u, V E x u → V Er x u := fun x u h => h.mono hextR (fresh_refl E _)
  have hsatR : Sat Er H.get := {
    muLt := fun id b o hm => Nat.lt_of_lt_of_le (hs.muLt id b o hm) hext.size
    permLt := fun b hb => by
      rcases hb with hb | ⟨id, o, hm⟩
      · exact hsat.permLt b hb
      · exact hsat.muLt id b o hm
    permOwn := fun b hb ho => by
      rcases hb with hb | hb
      · exact hpermE b hb ho
      · have h1 := hnew b hb
        have h2 := hownE b ho
        omega
    ob := fun id b o hm => (hs.ob id b o hm).mono_of (hframe b (hs.muLt id b o hm)) hmono
    base := hs.keepBase hextR
    inj := hs.inj }
  obtain ⟨fr, _⟩ := frz_ok (tmp := false) Fr hsat k2
  exact ⟨Er, rfl, hextR, hsatR, u, rfl, ((fr v v' h2).2 u hV).2⟩
end Go.Ab

/- The abstract machine: a call that defers one closure, which recovers. -/
namespace Go.Ab
set_option linter.unusedSectionVars false
variable [HasBase]
set_option linter.unusedVariables false
set_option linter.unusedSimpArgs false

variable {P : Program}

theorem wpOpsS_cons {ops : Array Oper} {Q : Exit → Act → List Frame → World → Prop} {i : Nat} {rest : List Nat} {a : Act} {cs : List Frame} {w : World} (h : wpOpL P ops (fun e a w => Q e a cs w) i (fun a w => wpOpsS P ops Q rest a cs w) a w) : wpOpsS P ops Q (i :: rest) a cs w := by
  unfold wpOpL at h
  unfold wpOpsS
  cases ho : ops[i]? with
  | none => rw [ho] at h; exact h
  | some o =>
    rw [ho] at h
    dsimp only at h ⊢
    by_cases hw : Region.wanted o (yielded ops a.tmps) = true
    · rw [if_pos hw] at h ⊢
      unfold Oper.wp at h
      split
      · rename_i w' hr
        rw [hr] at h
        exact h.elim
      · exact h
    · rw [if_neg hw] at h ⊢
      exact h

theorem ops_okS {call : CallFn} (hcall : CallOK P call) {ops : Array Oper} (cs : List Frame) : ∀ (l : List Oper) (i0 : Nat), (∀ j, l[j]? = ops[i0 + j]?) → ∀ (tm : List AV) (H : Heap) (r : SR), runOps P call ops l tm H = some r → H.wf →
    r.heap.wf ∧ H.n ≤ r.heap.n ∧ ∀ (E0 E : Env) (n0 : Nat) (a0 a : Act) (D : List Tmp), Ext E0 E n0 H.n → Fresh E0 n0 r.heap.n → a.defers = a0.defers → a.tmps.size = a0.tmps.size → (∀ t, t ∉ D → a.tmps[t]? = a0.tmps[t]?) → (∀ o, o ∈ l → ∀ d, o.dst = some d → d ∈ D) →
      TM E tm a.tmps → Sat E H.get → Fresh E H.n r.heap.n → ∀ (Q : Exit → Act → List Frame → World → Prop), (∀ e a w, RPost E0 n0 a0 D r e a w → Q e a cs w) → wpOpsS P ops Q (List.range' i0 l.length) a cs E.w
  | [], i0, hl, tm, H, r, h, hw => by
    simp only [runOps, Option.some.injEq] at h; subst h
    refine ⟨hw, Nat.le_refl _, fun E0 E n0 a0 a D hext hf0 hd hs hk hD ht hsat hf Q hQ => ?_⟩
    exact hQ .normal a E.w ⟨⟨E, rfl, hext, hsat, ht⟩, hd, hs, hk⟩
  | o :: l, i0, hl, tm, H, r, h, hw => by
    unfold runOps at h
    have ho : ops[i0]? = some o := by have := hl 0; simpa using this.symm
    have hl' : ∀ j, l[j]? = ops[i0 + 1 + j]? := fun j => by
      have := hl (j + 1)
      simp only [List.getElem?_cons_succ] at this
      rw [this]; congr 1; omega
    cases hst : stepA P call ops o tm H with
    | none => rw [hst] at h; simp at h
    | some s =>
      obtain ⟨h1, h2, h3⟩ := step_ok hcall hst hw
      rw [hst] at h
      cases s with
      | pan p H1 =>
        simp only [Option.some.injEq] at h; subst h
        refine ⟨h1, h2, fun E0 E n0 a0 a D hext hf0 hd hs hk hD ht hsat hf Q hQ => ?_⟩
        rw [List.length_cons, List.range'_succ]
        refine wpOpsS_cons (h3 E a i0 _ _ ho ht hsat hf (fun _ _ e => by cases e) fun p' H' e E' v hext' hsat' hV => ?_)
        cases e
        exact hQ _ _ _ ⟨⟨E', rfl, hext.trans hext' hf0, hsat', v, rfl, hV⟩, hd, hs, hk⟩
      | go tm1 H1 =>
        dsimp only at h
        obtain ⟨g1, g2, g3⟩ := ops_okS hcall cs l (i0 + 1) hl' tm1 H1 r h h1
        refine ⟨g1, Nat.le_trans h2 g2, fun E0 E n0 a0 a D hext hf0 hd hs hk hD ht hsat hf Q hQ => ?_⟩
        rw [List.length_cons, List.range'_succ]
        have hfa : Fresh E H.n H1.n := hf.mono (Nat.le_refl _) g2
        have hfb : Fresh E H1.n r.heap.n := hf.mono h2 (Nat.le_refl _)
        refine wpOpsS_cons (h3 E a i0 _ _ ho ht hsat hfa (fun tm' H' e E' v hext' hsat' ht' => ?_) (fun _ _ e => by cases e))
        cases e
        refine g3 E0 E' n0 a0 (a.put o.dst v) D (hext.trans hext' (hf0.mono (Nat.le_refl _) g2)) hf0 ((put_defers _ _ _).trans hd) ((put_size _ _ _).trans hs) (fun t htD => ?_) (fun o' ho' => hD o' (List.mem_cons_of_mem _ ho')) ht' hsat'
          (hext'.fresh hfb (.inl (Nat.le_refl _))) Q hQ
        rw [put_other _ _ fun e => htD (hD o (List.mem_cons_self ..) t e)]
        exact hk t htD

/-- The closure: it recovers, whatever the frame above is doing. -/
theorem closure_ok {call : CallFn} (hcall : CallOK P call) (hm : P.follows .mixedOrders = true) {n : Nat} {g : FuncId} {args : List AV} {rv : AV} {H H3 : Heap} (h : runClosure P call n g args rv H = some H3) (hw : H.wf) :
    H3.wf ∧ H.n ≤ H3.n ∧ (∃ fn, P.funcs[g]? = some fn ∧ fn.body.isSome = true) ∧ ∀ (E : Env) (vs : Array Value) (u : FrameMode), VL E args vs.toList → Sat E H.get → Fresh E H.n H3.n →
      ((u = .returning ∧ rv = .nili) ∨ ∃ v, u = .panicking [{ v, recovered := false }] ∧ V E rv v) →
      CallsD P g vs u E.w fun e u' w' => ∃ E' x, e = .returned x ∧ E'.w = w' ∧ Ext E E' H.n H3.n ∧ Sat E' H3.get ∧ settle u' = .returning := by
  unfold runClosure at h
  split at h <;> try (cases h; done)
  rename_i fn hf
  split at h <;> try (cases h; done)
  rename_i id ops rest hb
  split at h <;> try (cases h; done)
  rename_i t cts ty pos aft os hops
  split at h <;> try (cases h; done)
  rename_i tm H1 hrun
  -- the ways out
  have key : ∀ ax tm2 H2, runCode P call n rest tm H1 = some (ax, tm2, H2) → (ax = .normal ∨ ax = .ret) → (if fn.results.size = 0 then some H2 else none) = some H3 →
      H3.wf ∧ H.n ≤ H3.n ∧ (∃ fn, P.funcs[g]? = some fn ∧ fn.body.isSome = true) ∧ ∀ (E : Env) (vs : Array Value) (u : FrameMode), VL E args vs.toList → Sat E H.get → Fresh E H.n H3.n →
      ((u = .returning ∧ rv = .nili) ∨ ∃ v, u = .panicking [{ v, recovered := false }] ∧ V E rv v) →
      CallsD P g vs u E.w fun e u' w' => ∃ E' x, e = .returned x ∧ E'.w = w' ∧ Ext E E' H.n H3.n ∧ Sat E' H3.get ∧ settle u' = .returning := by
    intro ax tm2 H2 hcode hax hres
    split at hres <;> try (cases hres; done)
    rename_i hnores
    simp only [Option.some.injEq] at hres; subst hres
    have hlen : ops.size = os.length + 1 := by rw [← Array.length_toList, hops]; rfl
    have hget : ∀ j, os[j]? = ops[1 + j]? := fun j => by
      have : ops.toList[1 + j]? = os[j]? := by rw [hops, Nat.add_comm]; rfl
      rw [← this]; simp
    have ho0 : ops[0]? = some ⟨some t, .call ⟨.builtin .recover, ⟨[]⟩, cts⟩, ty, pos, aft, none⟩ := by
      have : ops.toList[0]? = some ⟨some t, .call ⟨.builtin .recover, ⟨[]⟩, cts⟩, ty, pos, aft, none⟩ := by rw [hops]; rfl
      simpa using this
    obtain ⟨h1, h2, _⟩ := ops_okS hcall [] os 1 hget _ H _ hrun hw
    obtain ⟨g1, g2, g3⟩ := code_ok hcall hm n rest tm H1 _ hcode h1
    have h2' : H.n ≤ H1.n := h2
    refine ⟨g1, Nat.le_trans h2 g2, ⟨fn, hf, by rw [hb]; rfl⟩, fun E vs u hvl hs hfr hu => ?_⟩
    refine callsD_of_wpS hf hb fun c₀ cs hmode => wpS_seq (wpS_region ?_)
    have hrange : List.range ops.size = 0 :: List.range' 1 os.length := by rw [hlen, List.range_eq_range', List.range'_succ]
    rw [hrange]
    unfold wpOpsS
    rw [ho0]
    have hwant : ∀ y, Region.wanted ⟨some t, .call ⟨.builtin .recover, ⟨[]⟩, cts⟩, ty, pos, aft, none⟩ y = true := fun y => rfl
    have hex : ∀ (a : Act) (w : World), (execOp a.eval ⟨some t, .call ⟨.builtin .recover, ⟨[]⟩, cts⟩, ty, pos, aft, none⟩).run P w = .ok .recover w := fun a w => rfl
    simp only [hwant, if_true, hex]
    -- the world behind 'recover()'
    have go : ∀ (cs' : List Frame) (u' : FrameMode) (v : Value), cs' = { c₀ with mode := u' } :: cs → settle u' = .returning → V E rv v →
        wpOpsS P ops (Exit.thenS (rest.wpS P (bodyPostS P fn c₀ cs fun e u' w' => ∃ E' x, e = .returned x ∧ E'.w = w' ∧ Ext E E' H.n H2.n ∧ Sat E' H2.get ∧ settle u' = .returning)) (bodyPostS P fn c₀ cs fun e u' w' => ∃ E' x, e = .returned x ∧ E'.w = w' ∧ Ext E E' H.n H2.n ∧ Sat E' H2.get ∧ settle u' = .returning)) (List.range' 1 os.length)
          (({ tmps := vs ++ Array.replicate (fn.ntmps - vs.size) undef, defers := [] } : Act).put (some t) v) cs' E.w := by
      intro cs' u' v hcs hset hV
      have htm : TM E ((args ++ List.replicate (fn.ntmps - args.length) AV.undef).set t rv) (({ tmps := vs ++ Array.replicate (fn.ntmps - vs.size) undef, defers := [] } : Act).put (some t) v).tmps :=
        TM.put (a := { tmps := vs ++ Array.replicate (fn.ntmps - vs.size) undef, defers := [] }) (TM.enter hvl fn.ntmps) (some t) hV
      obtain ⟨_, _, h3⟩ := ops_okS hcall cs' os 1 hget _ H _ hrun hw
      have hfr1 : Fresh E H.n H1.n := hfr.mono (Nat.le_refl _) g2
      have := h3 E E H.n _ _ (os.filterMap (·.dst)) (Ext.refl E _) hfr1 rfl rfl (fun _ _ => rfl) (fun o ho d hd => List.mem_filterMap.2 ⟨o, ho, hd⟩) htm hs hfr1
      refine this _ fun e a ws hq => ?_
      obtain ⟨⟨E1, hw1, hext, hsat, hexr⟩, p1, p2, p3⟩ := hq
      cases e <;> try (exact hexr.elim)
      subst hw1
      refine wpS_of_wp (wp_mono (g3 E1 a hexr hsat (hext.fresh (hfr.mono h2' (Nat.le_refl _)) (.inl (Nat.le_refl _)))) fun e a2 w2 hq => ?_)
      obtain ⟨⟨E2, hw2, hext2, hsat2, hexr2⟩, q1, q2, q3⟩ := hq
      subst hw2
      have hres : (results fn a2.tmps).run P E2.w = .ok (.tuple #[]) E2.w := by
        have hl : fn.results = #[] := Array.eq_empty_of_size_eq_zero hnores
        unfold results
        rw [hl]
        simp
      have hd : a2.defers = [] := q1.trans p1
      have hall := hext.trans hext2 hfr
      rcases hax with rfl | rfl
      · cases e <;> try (exact hexr2.elim)
        exact ⟨hd, u', hcs, .tuple #[], hres, E2, .tuple #[], rfl, rfl, hall, hsat2, hset⟩
      · cases e <;> try (exact hexr2.elim)
        exact ⟨hd, u', hcs, .tuple #[], hres, E2, .tuple #[], rfl, rfl, hall, hsat2, hset⟩
    rcases hu with ⟨rfl, rfl⟩ | ⟨v, rfl, hV⟩
    · have hrec : recoverD (c₀ :: cs) = none := by simp [recoverD, hmode]
      rw [hrec]
      exact go (c₀ :: cs) .returning .nilIface (by rw [← hmode]) rfl .nili
    · have hrec : recoverD (c₀ :: cs) = some (v, { c₀ with mode := .panicking [{ v, recovered := true }] } :: cs) := by simp [recoverD, hmode]
      rw [hrec]
      exact go _ (.panicking [{ v, recovered := true }]) v rfl rfl hV
  split at h <;> try (cases h; done)
  · rename_i tm2 H2 hcode
    exact key _ _ _ hcode (.inl rfl) h
  · rename_i tm2 H2 hcode
    exact key _ _ _ hcode (.inr rfl) h
theorem split_inv {c : Code} {pre : List Code} {t : Tmp} {g : FuncId} {caps : Array Operand} {post : Code} (h : splitDefer c = some (pre, t, g, caps, post)) :
    ∃ x y, c = .seq x y ∧ ((pre = [] ∧ post = y ∧ ∃ id ops ty1 p1 a1 ty2 p2 a2 cts, x = .region id ops false ∧
      ops.toList = [⟨some t, .makeFunc (.func g) ⟨[]⟩ caps, ty1, p1, a1, none⟩, ⟨none, .defer ⟨.value (.tmp t), ⟨[]⟩, cts⟩, ty2, p2, a2, none⟩]) ∨ ∃ pre', pre = x :: pre' ∧ splitDefer y = some (pre', t, g, caps, post)) := by
  unfold splitDefer at h
  split at h <;> try (cases h; done)
  · rename_i id ops rest
    refine ⟨.region id ops false, rest, rfl, ?_⟩
    split at h
    · rename_i t1 g1 caps1 ty1 p1 a1 t2 cts ty2 p2 a2 hops
      split at h <;> try (cases h; done)
      rename_i ht
      subst ht
      simp only [Option.some.injEq, Prod.mk.injEq] at h
      obtain ⟨rfl, rfl, rfl, rfl, rfl⟩ := h
      exact .inl ⟨rfl, rfl, id, ops, ty1, p1, a1, ty2, p2, a2, cts, rfl, hops⟩
    · split at h <;> try (cases h; done)
      rename_i pre' r hr
      simp only [Option.some.injEq, Prod.mk.injEq] at h
      obtain ⟨rfl, rfl⟩ := h
      exact .inr ⟨pre', rfl, hr⟩
  · rename_i a rest _
    refine ⟨a, rest, rfl, ?_⟩
    split at h <;> try (cases h; done)
    rename_i pre' r hr
    simp only [Option.some.injEq, Prod.mk.injEq] at h
    obtain ⟨rfl, rfl⟩ := h
    exact .inr ⟨pre', rfl, hr⟩

/-- What stands before the deferring and the deferring. -/
theorem split_ok {call : CallFn} (hcall : CallOK P call) (hm : P.follows .mixedOrders = true) {n : Nat} {t : Tmp} {g : FuncId} {caps : Array Operand} {post : Code} : ∀ (pre : List Code) (c : Code), splitDefer c = some (pre, t, g, caps, post) →
    ∀ tm H ax tm1 H1, runSeq P call n pre tm H = some (ax, tm1, H1) → H.wf → H1.wf ∧ H.n ≤ H1.n ∧ ∀ (E : Env) (a : Act) (Q : Exit → Act → World → Prop), TM E tm a.tmps → Sat E H.get → Fresh E H.n H1.n →
      (ax = .ret → (∀ E1 a1, Ext E E1 H.n H1.n → Sat E1 H1.get → TM E1 tm1 a1.tmps → a1.defers = a.defers → Q .ret a1 E1.w) → c.wp P Q a E.w) ∧
      (∀ vs, ax = .normal → evs tm1 caps.toList = some vs → t < tm1.length →
        (∀ E1 a1 (capV : Array Value), Ext E E1 H.n H1.n → Sat E1 H1.get → TM E1 (tm1.set t (.fn g vs)) a1.tmps → VL E1 vs capV.toList → a1.defers = { target := .fn (.func g) capV, args := #[] } :: a.defers → post.wp P Q a1 E1.w) → c.wp P Q a E.w)
  | [], c, hsp, tm, H, ax, tm1, H1, h, hw => by
    simp only [runSeq, Option.some.injEq, Prod.mk.injEq] at h
    obtain ⟨rfl, rfl, rfl⟩ := h
    refine ⟨hw, Nat.le_refl _, fun E a Q ht hs hf => ⟨fun h => (by cases h), fun vs _ hvs htl hpost => ?_⟩⟩
    obtain ⟨x, y, rfl, hcase⟩ := split_inv hsp
    rcases hcase with ⟨_, rfl, id, ops, ty1, p1, a1, ty2, p2, a2, cts, rfl, hops⟩ | ⟨pre', hp, _⟩
    · refine wp_seq (wp_region ?_)
      have hsz : ops.size = 2 := by rw [← Array.length_toList, hops]; rfl
      have ho0 : ops[0]? = some ⟨some t, .makeFunc (.func g) ⟨[]⟩ caps, ty1, p1, a1, none⟩ := by
        have : ops.toList[0]? = some ⟨some t, .makeFunc (.func g) ⟨[]⟩ caps, ty1, p1, a1, none⟩ := by rw [hops]; rfl
        simpa using this
      have ho1 : ops[1]? = some ⟨none, .defer ⟨.value (.tmp t), ⟨[]⟩, cts⟩, ty2, p2, a2, none⟩ := by
        have : ops.toList[1]? = some ⟨none, .defer ⟨.value (.tmp t), ⟨[]⟩, cts⟩, ty2, p2, a2, none⟩ := by rw [hops]; rfl
        simpa using this
      rw [hsz, show List.range 2 = [0, 1] from rfl, wpOps_cons]
      have hcv : VL E vs (caps.map a.eval).toList := by
        have := evs_spec ht hvs
        simpa using this
      have hfv : V E (.fn g vs) (.func (.func g) #[] (caps.map a.eval)) := .fn g vs (caps.map a.eval) (by have := hcv.1; rw [this]; simp) (fun j x v h1 h2 => hcv.2 j x v h1 (by rw [Array.getElem?_toList]; exact h2))
      -- the value itself
      have hrun0 : (execOp a.eval ⟨some t, .makeFunc (.func g) ⟨[]⟩ caps, ty1, p1, a1, none⟩).run P E.w = .ok (.value (.func (.func g) #[] (caps.map a.eval))) E.w := by simp [execOp, Instr.makeFunc]
      have htsz : t < a.tmps.size := by rw [← ht.len]; exact htl
      refine wpOpL.to ?_
      unfold wpOpL
      rw [ho0]
      simp only [Region.wanted, if_true]
      unfold Oper.wp
      rw [hrun0]
      show wpOps P ops _ [1] (a.put (some t) (.func (.func g) #[] (caps.map a.eval))) E.w
      rw [wpOps_cons]
      refine wpOpL.to ?_
      unfold wpOpL
      rw [ho1]
      simp only [Region.wanted, if_true]
      unfold Oper.wp
      have hev : (a.put (some t) (.func (.func g) #[] (caps.map a.eval))).eval (.tmp t) = .func (.func g) #[] (caps.map a.eval) := by
        simp [Act.put, Act.eval, htsz]
      have hrun1 : (execOp (a.put (some t) (.func (.func g) #[] (caps.map a.eval))).eval ⟨none, .defer ⟨.value (.tmp t), ⟨[]⟩, cts⟩, ty2, p2, a2, none⟩).run P E.w = .ok (.defer { target := .fn (.func g) (caps.map a.eval), args := #[] }) E.w := by
        simp [execOp, resolve, hev, Deferred.ofValue]
      rw [hrun1]
      refine hpost E _ (caps.map a.eval) (Ext.refl E _) hs ?_ hcv ?_
      · have := TM.put (a := a) ht (some t) hfv
        exact this
      · rfl
    · cases hp
  | x' :: pre', c, hsp, tm, H, ax, tm1, H1, h, hw => by
    obtain ⟨x, y, rfl, hcase⟩ := split_inv hsp
    rcases hcase with ⟨hp, _⟩ | ⟨pre'', hp, hsp'⟩
    · cases hp
    cases hp
    simp only [runSeq] at h
    cases hx : runCode P call n x' tm H with
    | none => simp [hx] at h
    | some r1 =>
      obtain ⟨ax2, tm2, H2⟩ := r1
      obtain ⟨h1, h2, h3⟩ := code_ok hcall hm n x' tm H _ hx hw
      rw [hx] at h
      have same : ax2 = ax → tm2 = tm1 → H2 = H1 → ax ≠ .normal → H1.wf ∧ H.n ≤ H1.n ∧ ∀ (E : Env) (a : Act) (Q : Exit → Act → World → Prop), TM E tm a.tmps → Sat E H.get → Fresh E H.n H1.n →
          (ax = .ret → (∀ E1 a1, Ext E E1 H.n H1.n → Sat E1 H1.get → TM E1 tm1 a1.tmps → a1.defers = a.defers → Q .ret a1 E1.w) → (Code.seq x' y).wp P Q a E.w) ∧
          (∀ vs, ax = .normal → evs tm1 caps.toList = some vs → t < tm1.length →
            (∀ E1 a1 (capV : Array Value), Ext E E1 H.n H1.n → Sat E1 H1.get → TM E1 (tm1.set t (.fn g vs)) a1.tmps → VL E1 vs capV.toList → a1.defers = { target := .fn (.func g) capV, args := #[] } :: a.defers → post.wp P Q a1 E1.w) → (Code.seq x' y).wp P Q a E.w) := by
        rintro rfl rfl rfl hne
        refine ⟨h1, h2, fun E a Q ht hs hf => ⟨fun hret hQ => ?_, fun vs hn => absurd hn hne⟩⟩
        subst hret
        refine wp_seq (wp_mono (h3 E a ht hs hf) fun e a' w' hq => ?_)
        obtain ⟨⟨E', hw', hext, hsat, hex⟩, p1, p2, p3⟩ := hq
        subst hw'
        cases e <;> try (exact hex.elim)
        exact hQ E' a' hext hsat hex p1
      cases ax2 with
      | normal =>
        dsimp only at h
        obtain ⟨g1, g2, g3⟩ := split_ok hcall hm pre' y hsp' tm2 H2 ax tm1 H1 h h1
        refine ⟨g1, Nat.le_trans h2 g2, fun E a Q ht hs hf => ?_⟩
        have step : ∀ (Q' : Prop), ((∀ E1 a1, Ext E E1 H.n H2.n → Sat E1 H2.get → TM E1 tm2 a1.tmps → a1.defers = a.defers → y.wp P Q a1 E1.w) → (Code.seq x' y).wp P Q a E.w) := fun _ hy => by
          refine wp_seq (wp_mono (h3 E a ht hs (hf.mono (Nat.le_refl _) g2)) fun e a' w' hq => ?_)
          obtain ⟨⟨E', hw', hext, hsat, hex⟩, p1, p2, p3⟩ := hq
          subst hw'
          cases e <;> try (exact hex.elim)
          exact hy E' a' hext hsat hex p1
        refine ⟨fun hret hQ => step True fun E1 a1 hext hsat htm hd => ?_, fun vs hn hvs htl hpost => step True fun E1 a1 hext hsat htm hd => ?_⟩
        · have hfr1 : Fresh E1 H2.n H1.n := hext.fresh (hf.mono h2 (Nat.le_refl _)) (.inl (Nat.le_refl _))
          exact (g3 E1 a1 Q htm hsat hfr1).1 hret fun E2 a2 e2 s2 t2 d2 => hQ E2 a2 (hext.trans e2 hf) s2 t2 (d2.trans hd)
        · have hfr1 : Fresh E1 H2.n H1.n := hext.fresh (hf.mono h2 (Nat.le_refl _)) (.inl (Nat.le_refl _))
          exact (g3 E1 a1 Q htm hsat hfr1).2 vs hn hvs htl fun E2 a2 cv e2 s2 t2 v2 d2 => hpost E2 a2 cv (hext.trans e2 hf) s2 t2 v2 (by rw [d2, hd])
      | ret =>
        simp only [Option.some.injEq, Prod.mk.injEq] at h
        obtain ⟨e1, e2, e3⟩ := h
        exact same e1 e2 e3 (by rw [← e1]; intro h; cases h)
      | exit i =>
        simp only [Option.some.injEq, Prod.mk.injEq] at h
        obtain ⟨e1, e2, e3⟩ := h
        exact same e1 e2 e3 (by rw [← e1]; intro h; cases h)
      | pan p =>
        simp only [Option.some.injEq, Prod.mk.injEq] at h
        obtain ⟨e1, e2, e3⟩ := h
        exact same e1 e2 e3 (by rw [← e1]; intro h; cases h)
end Go.Ab

/- The abstract machine: every call. -/
namespace Go.Ab
set_option linter.unusedSectionVars false
variable [HasBase]
set_option linter.unusedVariables false
set_option linter.unusedSimpArgs false

variable {P : Program}

theorem def_some {call : CallFn} {n : Nat} {fn : Func} {args : List AV} {H H' : Heap} {r : CR} (h : callDef P call n fn args H = some (r, H')) : fn.body.isSome = true := by
  unfold callDef at h
  split at h
  · rename_i c hc; rw [hc]; rfl
  · cases h

theorem def_ok {call : CallFn} (hcall : CallOK P call) (hm : P.follows .mixedOrders = true) (hp : plainNames P = true) {n : Nat} {f : FuncId} {fn : Func} {args : List AV} {H H' : Heap} {r : CR} (hf : P.funcs[f]? = some fn) (h : callDef P call n fn args H = some (r, H')) (hw : H.wf) : BodyOK P f args H r H' := by
  unfold callDef at h
  split at h <;> try (cases h; done)
  rename_i c hc
  split at h <;> try (cases h; done)
  rename_i pre t g caps post hsp
  cases hrun : runSeq P call n pre (args ++ List.replicate (fn.ntmps - args.length) .undef) H with
  | none => simp [hrun] at h
  | some res =>
  obtain ⟨ax, tm, H1⟩ := res
  obtain ⟨h1, h2, h3⟩ := split_ok hcall hm pre c hsp _ _ _ _ _ hrun hw
  rw [hrun] at h
  cases ax with
  | exit i => cases h
  | pan p => cases h
  | ret =>
    dsimp only at h
    split at h <;> try (cases h; done)
    rename_i v hv
    simp only [Option.some.injEq, Prod.mk.injEq] at h
    obtain ⟨rfl, rfl⟩ := h
    refine ⟨h1, h2, fun E vs hvl hs hfr => calls_of_wp_defers hf hc ?_⟩
    refine (h3 E _ _ (TM.enter hvl fn.ntmps) hs hfr).1 rfl fun E1 a1 hext hsat htm hd => ?_
    obtain ⟨u, hu1, hu2⟩ := res_ok (P := P) (fn := fn) htm hsat hv
    show Leaves P fn a1.tmps _ a1.defers .returning E1.w
    rw [hd]
    exact ⟨u, hu1, E1, rfl, hext, hsat, u, rfl, hu2⟩
  | normal =>
    dsimp only at h
    split at h <;> try (cases h; done)
    rename_i vs0 hvs0
    split at hvs0 <;> try (cases hvs0; done)
    rename_i htl
    cases hpost : runCode P call n post (tm.set t (.fn g vs0)) H1 with
    | none => simp [hpost] at h
    | some res2 =>
    obtain ⟨ax2, tm2, H2⟩ := res2
    obtain ⟨g1, g2, g3⟩ := code_ok hcall hm n post _ _ _ hpost h1
    rw [hpost] at h
    -- the deferred call, from a world behind the body
    have finish : ∀ (rv : AV) (H3 : Heap) (tmr : List AV) (v : AV), runClosure P call n g vs0 rv H2 = some H3 → resA P fn tmr H3 = some v →
        H3.wf ∧ H2.n ≤ H3.n ∧ ∀ (E E1 E2 : Env) (capV : Array Value) (tmps : Array Value) (u : FrameMode), Ext E E1 H.n H1.n → Ext E1 E2 H1.n H2.n → Fresh E H.n H3.n → Sat E2 H2.get → VL E1 vs0 capV.toList →
          (∀ rv, rv ∈ fn.results.toList → V E2 (tmr.getD (rvTmp rv) .undef) (tmps.getD (rvTmp rv) undef)) → u ≠ .run →
          ((u = .returning ∧ rv = .nili) ∨ ∃ v, u = .panicking [{ v, recovered := false }] ∧ V E2 rv v) →
          Leaves P fn tmps (fun e w' => ∃ E', E'.w = w' ∧ Ext E E' H.n H3.n ∧ Sat E' H3.get ∧ EndR E' (.ret v) e) [{ target := .fn (.func g) capV, args := #[] }] u E2.w := by
      intro rv H3 tmr v hcl hres
      obtain ⟨k1, k2, ⟨fng, hfg, hbg⟩, k4⟩ := closure_ok hcall hm hcl g1
      refine ⟨k1, k2, fun E E1 E2 capV tmps u hx1 hx2 hfr hs2 hcv htm hne hu => ?_⟩
      have hinv : (invoke (.fn (.func g) capV) #[]).run P E2.w = .ok (.enter g capV) E2.w := by
        have : invoke (.fn (.func g) capV) #[] = callFunc g (#[] ++ capV) := rfl
        rw [this, Array.empty_append]
        exact enter_run hp hfg hbg capV E2.w
      have hfr12 : Fresh E1 H1.n H2.n := hx1.fresh (hfr.mono h2 k2) (.inl (Nat.le_refl _))
      have hx12 : Ext E E2 H.n H2.n := hx1.trans hx2 (hfr.mono (Nat.le_refl _) k2)
      have hfr23 : Fresh E2 H2.n H3.n := hx12.fresh (hfr.mono hx12.le (Nat.le_refl _)) (.inl (Nat.le_refl _))
      refine leaves_cons hne hinv (CallsD.mono (k4 E2 capV u (VL.mono hx2 hfr12 hcv) hs2 hfr23 hu) ?_)
      rintro e u' w' ⟨E3, x, rfl, rfl, hx3, hs3, hset⟩
      dsimp only
      rw [hset]
      obtain ⟨val, q1, q2⟩ := res_ok' (P := P) (fn := fn) (fun rv hrv => (htm rv hrv).mono hx3 hfr23) hs3 hres
      exact ⟨val, q1, E3, rfl, hx12.trans hx3 hfr, hs3, val, rfl, q2⟩
    have ends : ∀ (ax' : AX), ax2 = ax' → (ax' = .normal ∨ ax' = .ret) → (match runClosure P call n g vs0 .nili H2 with
        | some H3 => match resA P fn tm2 H3 with
          | some v => some (CR.ret v, H3)
          | none => none
        | none => none) = some (r, H') → BodyOK P f args H r H' := by
      rintro ax' rfl hax h
      split at h <;> try (cases h; done)
      rename_i H3 hcl
      split at h <;> try (cases h; done)
      rename_i v hv
      simp only [Option.some.injEq, Prod.mk.injEq] at h
      obtain ⟨rfl, rfl⟩ := h
      obtain ⟨k1, k2, k3⟩ := finish _ _ _ _ hcl hv
      refine ⟨k1, Nat.le_trans h2 (Nat.le_trans g2 k2), fun E vs hvl hs hfr => calls_of_wp_defers hf hc ?_⟩
      have hfr1 : Fresh E H.n H1.n := hfr.mono (Nat.le_refl _) (Nat.le_trans g2 k2)
      refine (h3 E _ _ (TM.enter hvl fn.ntmps) hs hfr1).2 vs0 rfl hvs0 htl fun E1 a1 capV hext hsat htm hcv hd => ?_
      have hfr12 : Fresh E1 H1.n H2.n := hext.fresh (hfr.mono h2 k2) (.inl (Nat.le_refl _))
      refine wp_mono (g3 E1 a1 htm hsat hfr12) fun e a w hq => ?_
      obtain ⟨⟨E2, hw2, hx2, hs2, hex⟩, p1, p2, p3⟩ := hq
      subst hw2
      have hdef : a.defers = [{ target := .fn (.func g) capV, args := #[] }] := by rw [p1, hd]
      rcases hax with rfl | rfl
      · cases e <;> try (exact hex.elim)
        show Leaves P fn a.tmps _ a.defers .returning E2.w
        rw [hdef]
        exact k3 E E1 E2 capV a.tmps .returning hext hx2 hfr hs2 hcv (fun rv _ => TM.at hex _) (fun h => by cases h) (.inl ⟨rfl, rfl⟩)
      · cases e <;> try (exact hex.elim)
        show Leaves P fn a.tmps _ a.defers .returning E2.w
        rw [hdef]
        exact k3 E E1 E2 capV a.tmps .returning hext hx2 hfr hs2 hcv (fun rv _ => TM.at hex _) (fun h => by cases h) (.inl ⟨rfl, rfl⟩)
    cases ax2 with
    | exit i => cases h
    | normal => exact ends _ rfl (.inl rfl) h
    | ret => exact ends _ rfl (.inr rfl) h
    | pan p =>
      dsimp only at h
      split at h <;> try (cases h; done)
      rename_i hkeep
      split at h <;> try (cases h; done)
      rename_i H3 hcl
      split at h <;> try (cases h; done)
      rename_i v hv
      simp only [Option.some.injEq, Prod.mk.injEq] at h
      obtain ⟨rfl, rfl⟩ := h
      obtain ⟨k1, k2, k3⟩ := finish _ _ _ _ hcl hv
      refine ⟨k1, Nat.le_trans h2 (Nat.le_trans g2 k2), fun E vs hvl hs hfr => calls_of_wp_defers hf hc ?_⟩
      have hfr1 : Fresh E H.n H1.n := hfr.mono (Nat.le_refl _) (Nat.le_trans g2 k2)
      refine (h3 E _ _ (TM.enter hvl fn.ntmps) hs hfr1).2 vs0 rfl hvs0 htl fun E1 a1 capV hext hsat htm hcv hd => ?_
      have hfr12 : Fresh E1 H1.n H2.n := hext.fresh (hfr.mono h2 k2) (.inl (Nat.le_refl _))
      refine wp_mono (g3 E1 a1 htm hsat hfr12) fun e a w hq => ?_
      obtain ⟨⟨E2, hw2, hx2, hs2, hex⟩, p1, p2, p3⟩ := hq
      subst hw2
      have hdef : a.defers = [{ target := .fn (.func g) capV, args := #[] }] := by rw [p1, hd]
      cases e <;> try (exact hex.elim)
      obtain ⟨pv, rfl, hpV⟩ := hex
      show Leaves P fn a.tmps _ a.defers (.panicking [{ v := pv, recovered := false }]) E2.w
      rw [hdef]
      refine k3 E E1 E2 capV a.tmps _ hext hx2 hfr hs2 hcv (fun rv hrv => ?_) (fun h => by cases h) (.inr ⟨pv, rfl, hpV⟩)
      have hnot : rvTmp rv ∉ dsts post := by
        have := List.all_eq_true.1 hkeep (rvTmp rv) (by
          unfold resTmps
          refine List.mem_map.2 ⟨rv, hrv, ?_⟩
          cases rv <;> rfl)
        simpa using this
      have hsame : a.tmps.getD (rvTmp rv) undef = a1.tmps.getD (rvTmp rv) undef := by
        have := p3 (rvTmp rv) hnot
        rw [Array.getD_eq_getD_getElem?, Array.getD_eq_getD_getElem?, this]
      rw [hsame]
      exact (TM.at htm _).mono hx2 hfr12

theorem callN_ok (cfg : Cfg) (hm : P.follows .mixedOrders = true) (hp : plainNames P = true) (hsum : CallOK P cfg.sum) : ∀ k, CallOK P (callN P cfg k)
  | 0 => fun f args H r H' h => by simp [callN] at h
  | k + 1 => fun f args H r H' h hw => by
    have ih := callN_ok cfg hm hp hsum k
    unfold callN at h
    cases hs : cfg.sum f args H with
    | some x =>
      rw [hs] at h
      cases h
      exact hsum f args H r H' hs hw
    | none =>
      rw [hs] at h
      dsimp only at h
      split at h <;> try (cases h; done)
      rename_i fn hok hf
      have hbody : ∀ {args : List AV} {H H' : Heap} {r : CR}, bodyA P cfg (callN P cfg k) k f fn args H = some (r, H') → H.wf → BodyOK P f args H r H' ∧ fn.body.isSome = true := fun {args H H' r} hb hw => by
        unfold bodyA at hb
        split at hb
        · exact ⟨def_ok ih hm hp hf hb hw, def_some hb⟩
        · exact ⟨body_ok ih hm hf hb hw, body_some hb⟩
      have wrap : BodyOK P f args H r H' → fn.body.isSome = true → H'.wf ∧ H.n ≤ H'.n ∧ ∀ (E : Env) (vs : Array Value), VL E args vs.toList → Sat E H.get → Fresh E H.n H'.n →
          Invokes P f vs E.w fun e w' => ∃ E', E'.w = w' ∧ Ext E E' H.n H'.n ∧ Sat E' H'.get ∧ EndR E' r e := fun ⟨b1, b2, b3⟩ hsome =>
        ⟨b1, b2, fun E vs hvl hsat hfr => .inr ⟨enter_run hp hf hsome vs E.w, b3 E vs hvl hsat hfr⟩⟩
      split at h
      · -- by itself
        split at h <;> try (cases h; done)
        rename_i args' ha
        split at h <;> try (cases h; done)
        rename_i v H1 hb
        split at h <;> try (cases h; done)
        rename_i v' hv
        simp only [Option.some.injEq, Prod.mk.injEq] at h
        obtain ⟨rfl, rfl⟩ := h
        obtain ⟨b1, b2⟩ := hbody hb rfl
        exact wrap (pure_ok b1 ha hv hw) b2
      · obtain ⟨b1, b2⟩ := hbody h hw
        exact wrap b1 b2
end Go.Ab

/- The abstract machine: rules for running code with unknown data ('Run .. Q': it runs, and Q holds of how it ends). -/
namespace Go.Ab
set_option linter.unusedSectionVars false
variable [HasBase]
set_option linter.unusedVariables false

section
variable {P : Program} {call : CallFn} {n : Nat} {Q : AX → List AV → Heap → Prop} {tm : List AV} {H : Heap}

def Run (P : Program) (call : CallFn) (n : Nat) (c : Code) (tm : List AV) (H : Heap) (Q : AX → List AV → Heap → Prop) : Prop :=
  ∃ ax tm' H', runCode P call n c tm H = some (ax, tm', H') ∧ Q ax tm' H'

/-- Operations in text order. -/
def Ops (P : Program) (call : CallFn) (ops : Array Oper) (l : List Oper) (tm : List AV) (H : Heap) (K : List AV → Heap → Prop) (KP : AV → Heap → Prop) : Prop :=
  (∃ tm' H', runOps P call ops l tm H = some (.go tm' H') ∧ K tm' H') ∨ (∃ p H', runOps P call ops l tm H = some (.pan p H') ∧ KP p H')

variable {ops : Array Oper} {o : Oper} {os : List Oper} {K : List AV → Heap → Prop} {KP : AV → Heap → Prop}

theorem ops_nil (h : K tm H) : Ops P call ops [] tm H K KP := .inl ⟨tm, H, rfl, h⟩
theorem ops_val {H' : Heap} {v : AV} (h1 : wantedA ops o tm = true) (h2 : opA P o tm H = some (.val v H')) (h3 : Ops P call ops os (putA tm o.dst v) H' K KP) : Ops P call ops (o :: os) tm H K KP := by
  have e : runOps P call ops (o :: os) tm H = runOps P call ops os (putA tm o.dst v) H' := by simp only [runOps, stepA, h1, h2]
  unfold Ops at h3 ⊢
  rw [e]; exact h3
theorem ops_skip (h1 : wantedA ops o tm = false) (h3 : Ops P call ops os (putA tm o.dst .undef) H K KP) : Ops P call ops (o :: os) tm H K KP := by
  have e : runOps P call ops (o :: os) tm H = runOps P call ops os (putA tm o.dst .undef) H := by simp only [runOps, stepA, h1]
  unfold Ops at h3 ⊢
  rw [e]; exact h3
theorem ops_call {H' : Heap} {f : FuncId} {args : List AV} {v : AV} (h1 : wantedA ops o tm = true) (h2 : opA P o tm H = some (.call f args)) (h4 : call f args H = some (.ret v, H')) (h3 : Ops P call ops os (putA tm o.dst v) H' K KP) : Ops P call ops (o :: os) tm H K KP := by
  have e : runOps P call ops (o :: os) tm H = runOps P call ops os (putA tm o.dst v) H' := by simp only [runOps, stepA, h1, h2, h4]
  unfold Ops at h3 ⊢
  rw [e]; exact h3
theorem ops_callPan {H' : Heap} {f : FuncId} {args : List AV} {v : AV} (h1 : wantedA ops o tm = true) (h2 : opA P o tm H = some (.call f args)) (h4 : call f args H = some (.pan v, H')) (h3 : KP v H') : Ops P call ops (o :: os) tm H K KP :=
  .inr ⟨v, H', by simp only [runOps, stepA, h1, h2, h4], h3⟩
theorem ops_pan {v : AV} (h1 : wantedA ops o tm = true) (h2 : opA P o tm H = some (.pan v)) (h3 : KP v H) : Ops P call ops (o :: os) tm H K KP :=
  .inr ⟨v, H, by simp only [runOps, stepA, h1, h2], h3⟩

theorem run_region {id : Nat} (h : Ops P call ops ops.toList tm H (fun tm' H' => Q .normal tm' H') (fun p H' => Q (.pan p) tm H')) : Run P call n (.region id ops false) tm H Q := by
  rcases h with ⟨tm', H', h1, h2⟩ | ⟨p, H', h1, h2⟩
  · exact ⟨.normal, tm', H', by simp only [runCode, h1, ofSR], h2⟩
  · exact ⟨.pan p, tm, H', by simp only [runCode, h1, ofSR], h2⟩
/-- A region in any order: the run, and the check by the machine itself. -/
theorem run_draw {id : Nat} {tm' : List AV} {H' : Heap} (h : runDraw P call ops tm H = some (.go tm' H')) (hq : Q .normal tm' H') : Run P call n (.region id ops true) tm H Q :=
  ⟨.normal, tm', H', by simp only [runCode, h, ofSR], hq⟩
theorem run_skip (h : Q .normal tm H) : Run P call n .skip tm H Q := ⟨_, _, _, rfl, h⟩
theorem run_ret (h : Q .ret tm H) : Run P call n .ret tm H Q := ⟨_, _, _, rfl, h⟩
theorem run_exit {id : Nat} (h : Q (.exit id) tm H) : Run P call n (.exit id) tm H Q := ⟨_, _, _, rfl, h⟩
theorem run_label {l : Nat} (h : Q .normal tm H) : Run P call n (.label l) tm H Q := ⟨_, _, _, rfl, h⟩
def AX.then (K : List AV → Heap → Prop) (Q : AX → List AV → Heap → Prop) : AX → List AV → Heap → Prop
  | .normal, tm, H => K tm H
  | ax, tm, H => Q ax tm H
theorem run_seq {a b : Code} (h : Run P call n a tm H (AX.then (fun tm' H' => Run P call n b tm' H' Q) Q)) : Run P call n (.seq a b) tm H Q := by
  obtain ⟨ax, tm1, H1, h1, h2⟩ := h
  cases ax with
  | normal =>
    obtain ⟨ax, tm2, H2, h3, h4⟩ := h2
    exact ⟨ax, tm2, H2, by simp only [runCode, h1, h3], h4⟩
  | exit i => exact ⟨_, _, _, by simp only [runCode, h1], h2⟩
  | ret => exact ⟨_, _, _, by simp only [runCode, h1], h2⟩
  | pan p => exact ⟨_, _, _, by simp only [runCode, h1], h2⟩
theorem run_cond {c : Operand} {a b : Code} {t : Bool} (hc : ev tm c = some (.bool t)) (ht : t = true → Run P call n a tm H Q) (hf : t = false → Run P call n b tm H Q) : Run P call n (.cond c a b) tm H Q := by
  cases t with
  | true =>
    obtain ⟨ax, tm1, H1, h1, h2⟩ := ht rfl
    exact ⟨ax, tm1, H1, by simp only [runCode, hc, h1], h2⟩
  | false =>
    obtain ⟨ax, tm1, H1, h1, h2⟩ := hf rfl
    exact ⟨ax, tm1, H1, by simp only [runCode, hc, h1], h2⟩
def AX.inBlock (id : Nat) (Q : AX → List AV → Heap → Prop) : AX → List AV → Heap → Prop
  | .exit i, tm, H => if i = id then Q .normal tm H else Q (.exit i) tm H
  | ax, tm, H => Q ax tm H
theorem run_block {id : Nat} {b : Code} (h : Run P call n b tm H (AX.inBlock id Q)) : Run P call n (.block id b) tm H Q := by
  obtain ⟨ax, tm1, H1, h1, h2⟩ := h
  cases ax with
  | exit i =>
    by_cases hi : i = id
    · simp only [AX.inBlock, hi, if_true] at h2
      exact ⟨.normal, tm1, H1, by simp only [runCode, h1, hi, if_true], h2⟩
    · simp only [AX.inBlock, hi, if_false] at h2
      exact ⟨.exit i, tm1, H1, by simp only [runCode, h1, hi, if_false], h2⟩
  | normal => exact ⟨_, _, _, by simp only [runCode, h1], h2⟩
  | ret => exact ⟨_, _, _, by simp only [runCode, h1], h2⟩
  | pan p => exact ⟨_, _, _, by simp only [runCode, h1], h2⟩
theorem run_scope {b : Code} (h : Run P call n b tm H Q) : Run P call n (.scope b) tm H Q := by
  obtain ⟨ax, tm1, H1, h1, h2⟩ := h
  exact ⟨ax, tm1, H1, by simp only [runCode]; exact h1, h2⟩
/-- A loop: I m holds with at least m rounds of fuel to go. -/
theorem run_loop {b : Code} (I : Nat → List AV → Heap → Prop) (step : ∀ m tm H, I m tm H → Run P call n b tm H (AX.then (fun tm' H' => ∃ m', m' < m ∧ I m' tm' H') Q)) {m : Nat} (hm : m < n) (h : I m tm H) : Run P call n (.loop b) tm H Q := by
  have key : ∀ (k m : Nat) (tm : List AV) (H : Heap), m < k → I m tm H → ∃ ax tm' H', iter (fun tm H => runCode P call n b tm H) k tm H = some (ax, tm', H') ∧ Q ax tm' H' := by
    intro k
    induction k with
    | zero => intro m tm H h; omega
    | succ k ih =>
      intro m tm H hk hI
      obtain ⟨ax, tm1, H1, h1, h2⟩ := step m tm H hI
      cases ax with
      | normal =>
        obtain ⟨m', h3, h4⟩ := h2
        obtain ⟨ax, tm2, H2, h5, h6⟩ := ih m' tm1 H1 (by omega) h4
        exact ⟨ax, tm2, H2, by simp only [iter, h1]; exact h5, h6⟩
      | exit i => exact ⟨_, _, _, by simp only [iter, h1], h2⟩
      | ret => exact ⟨_, _, _, by simp only [iter, h1], h2⟩
      | pan p => exact ⟨_, _, _, by simp only [iter, h1], h2⟩
  obtain ⟨ax, tm', H', h1, h2⟩ := key n m tm H hm h
  exact ⟨ax, tm', H', by simp only [runCode]; exact h1, h2⟩

/-- The body of a function. -/
def BodyQ (P : Program) (fn : Func) (R : CR → Heap → Prop) : AX → List AV → Heap → Prop
  | .normal, tm, H | .ret, tm, H => ∃ v, resA P fn tm H = some v ∧ R (.ret v) H
  | .pan p, _, H => R (.pan p) H
  | .exit _, _, _ => False
theorem run_body {fn : Func} {c : Code} {args : List AV} {R : CR → Heap → Prop} (hb : fn.body = some c) (h : Run P call n c (args ++ List.replicate (fn.ntmps - args.length) .undef) H (BodyQ P fn R)) : ∃ r H', callBody P call n fn args H = some (r, H') ∧ R r H' := by
  obtain ⟨ax, tm, H1, h1, h2⟩ := h
  cases ax with
  | normal =>
    obtain ⟨v, h3, h4⟩ := h2
    exact ⟨.ret v, H1, by simp only [callBody, hb, h1, h3], h4⟩
  | ret =>
    obtain ⟨v, h3, h4⟩ := h2
    exact ⟨.ret v, H1, by simp only [callBody, hb, h1, h3], h4⟩
  | pan p => exact ⟨.pan p, H1, by simp only [callBody, hb, h1], h2⟩
  | exit i => exact h2.elim
end
attribute [irreducible] Run Ops
end Go.Ab
