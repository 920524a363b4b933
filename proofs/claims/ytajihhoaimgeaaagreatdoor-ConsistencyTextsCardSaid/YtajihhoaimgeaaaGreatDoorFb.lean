/- The abstract machine for the kernel: regions, code, calls. -/
import Derived.Test.YtajihhoaimgeaaaGreatDoorFa
import Derived.Lib.Bytealg
import Derived.Lib.Fields
import Derived.Lib.ItoaNum
set_option linter.unusedVariables false
set_option linter.unusedSimpArgs false
set_option linter.unusedSectionVars false
set_option linter.unnecessarySimpa false
namespace Go.Ab.F
set_option linter.unusedVariables false
noncomputable section
abbrev K := Tr → Heap → R
abbrev CallF := FuncId → List AV → Heap → R

def pS2 (k : K) (H : Heap) (t : Tr) : R := k t H
def pN (t : Tr) (k : K) (v : AV) (H : Heap) : R := k t H
def pS (d : Nat) (t : Tr) (k : K) (v : AV) (H : Heap) : R := setT (pth d) t v (pS2 k H)
def put (d : Option Tmp) : Tr → K → AV → Heap → R := @Option.rec Tmp (fun _ => Tr → K → AV → Heap → R) pN pS d
def putS (t : Tr) (d : Option Tmp) (v : AV) : Tr :=
  match d with
  | some d => setS t (pth d) v
  | none => t
theorem put_eq (d : Option Tmp) (t : Tr) (k : K) (v : AV) (H : Heap) : put d t k v H = k (putS t d v) H := by
  cases d with
  | none => rfl
  | some d => exact setT_eq _ _ _ _
theorem rep_put {t : Tr} {tm : List AV} (h : Rep t tm) (d : Option Tmp) (v : AV) : Rep (putS t d v) (putA tm d v) := by
  cases d with
  | none => exact h
  | some d => exact rep_set h d v

/-! guards -/
def isB (v : AV) (w : Bool) : Bool := caseBool false (fun b => @Bool.rec (fun _ => Bool) (bnot w) w b) v
theorem isB_eq (v : AV) (w : Bool) : isB v w = match v with | .bool b => b == w | _ => false := by
  cases v with
  | bool b => cases b <;> cases w <;> rfl
  | _ => rfl
def gDst (ops : Array Oper) (j : Nat) : Option Tmp := (ops[j]?).bind (·.dst)
def wB (w : Bool) (t : Tr) (d : Tmp) : Bool := isB (getT (pth d) t) w
def wG (ops : Array Oper) (t : Tr) (j : Nat) (w : Bool) : Bool := @Option.rec Tmp (fun _ => Bool) false (wB w t) (gDst ops j)
def wS (p : Nat × Bool) (ops : Array Oper) (t : Tr) : Bool := @Prod.rec Nat Bool (fun _ => Bool) (wG ops t) p
def wN (_ : Array Oper) (_ : Tr) : Bool := true
def wantF (ops : Array Oper) (o : Oper) (t : Tr) : Bool := @Option.rec (Nat × Bool) (fun _ => Array Oper → Tr → Bool) wN wS o.guard ops t
theorem wantF_eq {ops : Array Oper} {o : Oper} {t : Tr} {tm : List AV} (h : Rep t tm) : wantF ops o t = wantedA ops o tm := by
  unfold wantF wantedA
  cases o.guard with
  | none => rfl
  | some p =>
    obtain ⟨j, w⟩ := p
    show wG ops t j w = _
    unfold wG gDst
    dsimp only
    cases (ops[j]?).bind (·.dst) with
    | none => rfl
    | some d =>
      show isB (getT (pth d) t) w = _
      rw [isB_eq, getT_eq, h d]
      dsimp only
      cases tm[d]? with
      | none => rfl
      | some v => cases v <;> rfl

/-! calls -/
def cR2 (d : Option Tmp) (t : Tr) (k : K) (H' : Heap) (v : AV) : R := put d t k v H'
def cR1 (d : Option Tmp) (t : Tr) (k : K) (v : AV) (H' : Heap) : R := fAV v (cR2 d t k H')
def cP (v : AV) (H' : Heap) : R := some (.pan v H')
def nn2 {α β : Type} (_ : α) (_ : β) : R := none
def nn3 {α β γ : Type} (_ : α) (_ : β) (_ : γ) : R := none
def cSF (d : Option Tmp) (t : Tr) (k : K) (r : SF) : R := @SF.casesOn (fun _ => R) r nn2 cP nn3 nn3 nn2 (cR1 d t k)
def cOp (d : Option Tmp) (t : Tr) (k : K) (r : R) : R := @Option.rec SF (fun _ => R) none (cSF d t k) r
def kcall (call : CallF) (d : Option Tmp) (t : Tr) (H : Heap) (k : K) (f : FuncId) (args : List AV) : R := cOp d t k (call f args H)

/-- A call's result in the form of the machine. -/
def toCR : SF → Option (CR × Heap)
  | .res v H => some (.ret v, H)
  | .pan v H => some (.pan v, H)
  | _ => none
def CLe (c : CallF) (c' : CallFn) : Prop := ∀ f a H r, c f a H = some r → ∃ p, toCR r = some p ∧ c' f a H = some p
section
variable (P : Program)
def stepF (call : CallF) (ops : Array Oper) (o : Oper) (k : K) (t : Tr) (H : Heap) : R :=
  @Bool.rec (fun _ => R) (put o.dst t k .undef H) (opC P o.op t H (put o.dst t k) (kcall call o.dst t H k)) (wantF ops o t)

theorem stepF_ok {call : CallF} {call' : CallFn} (hc : CLe call call') {ops : Array Oper} {o : Oper} {k : K} {t : Tr} {tm : List AV} {H : Heap} {r : SF} (hr : Rep t tm) (h : stepF P call ops o k t H = some r) :
    (∃ tm' t' H', stepA P call' ops o tm H = some (.go tm' H') ∧ Rep t' tm' ∧ k t' H' = some r) ∨ (∃ v H', stepA P call' ops o tm H = some (.pan v H') ∧ r = .pan v H') := by
  unfold stepF at h
  rw [wantF_eq hr] at h
  unfold stepA
  cases hw : wantedA ops o tm with
  | false =>
    rw [hw] at h
    dsimp only at h ⊢
    rw [put_eq] at h
    exact .inl ⟨_, _, _, rfl, rep_put hr _ _, h⟩
  | true =>
    rw [hw] at h
    dsimp only at h ⊢
    rw [opC_eq, rdr_eq hr] at h
    have e := opE_eq P o tm H
    unfold rl at e
    rw [e] at h
    cases ho : opA P o tm H with
    | none => rw [ho] at h; cases h
    | some x =>
      rw [ho] at h
      cases x with
      | val v H' =>
        simp only [dg] at h
        rw [put_eq] at h
        exact .inl ⟨_, _, _, rfl, rep_put hr _ _, h⟩
      | pan v =>
        simp only [dg] at h
        cases h
        exact .inr ⟨_, _, rfl, rfl⟩
      | call f args =>
        simp only [dg, kcall, cOp] at h
        cases hf : call f args H with
        | none => rw [hf] at h; cases h
        | some s =>
          obtain ⟨p, h1, h2⟩ := hc f args H s hf
          rw [hf] at h
          dsimp only at h ⊢
          rw [h2]
          cases s with
          | res v H' =>
            cases h1
            have h : fAV v (cR2 o.dst t k H') = some r := h
            rw [fAV_eq, cR2, put_eq] at h
            exact .inl ⟨_, _, _, rfl, rep_put hr _ _, h⟩
          | pan v H' =>
            cases h1
            cases h
            exact .inr ⟨_, _, rfl, rfl⟩
          | _ => cases h1

/-! regions in text order -/
def rEnd (t : Tr) (H : Heap) : R := some (.go t H)
def rCons (call : CallF) (ops : Array Oper) (o : Oper) (_ : List Oper) (ih : K) : K := stepF P call ops o ih
def runF (call : CallF) (ops : Array Oper) (l : List Oper) : K := @List.rec Oper (fun _ => K) rEnd (rCons P call ops) l
theorem runF_ok {call : CallF} {call' : CallFn} (hc : CLe call call') (ops : Array Oper) : ∀ (l : List Oper) {t : Tr} {tm : List AV} {H : Heap} {r : SF}, Rep t tm → runF P call ops l t H = some r →
    (∃ tm' t' H', runOps P call' ops l tm H = some (.go tm' H') ∧ Rep t' tm' ∧ r = .go t' H') ∨ (∃ v H', runOps P call' ops l tm H = some (.pan v H') ∧ r = .pan v H')
  | [], t, tm, H, r, hr, h => by cases h; exact .inl ⟨_, _, _, rfl, hr, rfl⟩
  | o :: l, t, tm, H, r, hr, h => by
    have h : stepF P call ops o (runF P call ops l) t H = some r := h
    rcases stepF_ok P hc hr h with ⟨tm', t', H', h1, h2, h3⟩ | ⟨v, H', h1, h2⟩
    · rcases runF_ok hc ops l h2 h3 with ⟨tm2, t2, H2, h4, h5, h6⟩ | ⟨v, H2, h4, h5⟩
      · exact .inl ⟨tm2, t2, H2, by simp only [runOps, h1, h4], h5, h6⟩
      · exact .inr ⟨v, H2, by simp only [runOps, h1, h4], h5⟩
    · exact .inr ⟨v, H', by simp only [runOps, h1], h2⟩

/-! regions in any order -/
abbrev Sn := List (Tr × Heap)
def tEnd (acc : Sn) (t : Tr) (H : Heap) : R := some (.trc ((t, H) :: acc) t H)
def tCons (call : CallF) (ops : Array Oper) (o : Oper) (_ : List Oper) (ih : Sn → K) (acc : Sn) (t : Tr) (H : Heap) : R := stepF P call ops o (ih ((t, H) :: acc)) t H
def trcF (call : CallF) (ops : Array Oper) (l : List Oper) : Sn → K := @List.rec Oper (fun _ => Sn → K) tEnd (tCons P call ops) l
inductive Snaps : Sn → List (List AV × Heap) → Prop where
  | nil : Snaps [] []
  | cons {t : Tr} {tm : List AV} {H : Heap} {l : Sn} {l' : List (List AV × Heap)} : Rep t tm → Snaps l l' → Snaps ((t, H) :: l) ((tm, H) :: l')
theorem Snaps.append {a b : Sn} {a' b' : List (List AV × Heap)} (h : Snaps a a') (k : Snaps b b') : Snaps (a ++ b) (a' ++ b') := by
  induction h with
  | nil => exact k
  | cons hr _ ih => exact .cons hr ih
theorem Snaps.get {a : Sn} {a' : List (List AV × Heap)} (h : Snaps a a') : ∀ i : Nat, (∃ (t : Tr) (tm : List AV) (H : Heap), a[i]? = some (t, H) ∧ a'[i]? = some (tm, H) ∧ Rep t tm) ∨ (a[i]? = none ∧ a'[i]? = none) := by
  induction h with
  | nil => intro i; exact .inr ⟨rfl, rfl⟩
  | cons hr _ ih =>
    intro i
    cases i with
    | zero => exact .inl ⟨_, _, _, rfl, rfl, hr⟩
    | succ i => exact ih i
theorem trcF_ok {call : CallF} {call' : CallFn} (hc : CLe call call') (ops : Array Oper) : ∀ (l : List Oper) {acc : Sn} {t : Tr} {tm : List AV} {H : Heap} {s : Sn} {t' : Tr} {H' : Heap}, Rep t tm → trcF P call ops l acc t H = some (.trc s t' H') →
    ∃ tm' l' l2, runTrace P call' ops l tm H = some (l', .go tm' H') ∧ Rep t' tm' ∧ s = l2.reverse ++ acc ∧ Snaps l2 l'
  | [], acc, t, tm, H, s, t', H', hr, h => by
    cases h
    exact ⟨tm, [(tm, H)], [(t, H)], rfl, hr, rfl, .cons hr .nil⟩
  | o :: l, acc, t, tm, H, s, t', H', hr, h => by
    have h : stepF P call ops o (trcF P call ops l ((t, H) :: acc)) t H = some (.trc s t' H') := h
    rcases stepF_ok P hc hr h with ⟨tm1, t1, H1, h1, h2, h3⟩ | ⟨v, H1, h1, h2⟩
    · obtain ⟨tm', l', l2, h4, h5, h6, h7⟩ := trcF_ok hc ops l h2 h3
      refine ⟨tm', (tm, H) :: l', (t, H) :: l2, by simp only [runTrace, h1, h4], h5, ?_, .cons hr h7⟩
      rw [h6]; simp
    · cases h2
/-- As 'pairOk'. -/
def pairF (ops : Array Oper) (snaps : Sn) (i j : Nat) : Bool :=
  match snaps[i]?, snaps[j]?, snaps[j + 1]?, ops[i]? with
  | some (ti, Hi), some (_, Hj), some (_, Hk), some o =>
    if wantF ops o ti then
      match o.op with
      | .load t a => match evF (rdr ti) a, loadN P t with
        | some x, some m => eqO (rd Hj x m) (rd Hk x m)
        | _, _ => false
      | .lookup _ m _ _ => match evF (rdr ti) m with
        | some (.map id) => Ob.same (Hj.get id) (Hk.get id)
        | some .nilm => true
        | _ => false
      | .store _ a _ => match evF (rdr ti) a with
        | some (.ptr id _) => Ob.same (Hj.get id) (Hk.get id)
        | _ => false
      | _ => Ob.same (Hj.get Hi.n) (Hk.get Hi.n)
    else true
  | _, _, _, _ => false
theorem pairF_ok {ops : Array Oper} {s : Sn} {l : List (List AV × Heap)} (h : Snaps s l) (i j : Nat) : pairF P ops s i j = pairOk P ops l i j := by
  unfold pairF pairOk
  rcases h.get i with ⟨ti, tmi, Hi, h1, h2, hri⟩ | ⟨h1, h2⟩ <;> rw [h1, h2]
  rcases h.get j with ⟨tj, tmj, Hj, h3, h4, hrj⟩ | ⟨h3, h4⟩ <;> rw [h3, h4]
  rcases h.get (j + 1) with ⟨tk, tmk, Hk, h5, h6, hrk⟩ | ⟨h5, h6⟩ <;> rw [h5, h6]
  cases ops[i]? with
  | none => rfl
  | some o =>
    have e : ev tmi = evF (rdr ti) := by rw [rdr_eq hri]; exact ev_rl tmi
    simp only [wantF_eq hri, e]
    cases wantedA ops o tmi with
    | false => rfl
    | true =>
      simp only [if_true]
      cases o.op <;> rfl
def noPairs (ops : Array Oper) : Bool := match pairsOf P ops.toList with | some [] => okDraw ops | _ => false
def drE (t : Tr) (H : Heap) : R := some (.go t H)
def drS (r : SF) : R := @SF.casesOn (fun _ => R) r drE nn2 nn3 nn3 nn2 nn2
def drEasy (r : R) : R := @Option.rec SF (fun _ => R) none drS r
def drChk (ops : Array Oper) (s : Sn) (ps : List (Nat × Nat)) : Bool := okDraw ops && ps.all fun p => pairF P ops s p.1 p.2
def drH2 (ops : Array Oper) (s : Sn) (t : Tr) (H : Heap) (ps : List (Nat × Nat)) : R := @Bool.rec (fun _ => R) none (some (.go t H)) (drChk P ops s ps)
def drH1 (ops : Array Oper) (s : Sn) (t : Tr) (H : Heap) : R := @Option.rec (List (Nat × Nat)) (fun _ => R) none (drH2 P ops s.reverse t H) (pairsOf P ops.toList)
def drH (ops : Array Oper) (r : SF) : R := @SF.casesOn (fun _ => R) r nn2 nn2 (drH1 P ops) nn3 nn2 nn2
def drHard (ops : Array Oper) (r : R) : R := @Option.rec SF (fun _ => R) none (drH P ops) r
def drawF (call : CallF) (ops : Array Oper) (t : Tr) (H : Heap) : R :=
  @Bool.rec (fun _ => R) (drHard P ops (trcF P call ops ops.toList [] t H)) (drEasy (runF P call ops ops.toList t H)) (noPairs P ops)
theorem trace_run {call : CallFn} {ops : Array Oper} : ∀ {l : List Oper} {tm : List AV} {H : Heap} {tm' : List AV} {H' : Heap}, runOps P call ops l tm H = some (.go tm' H') → ∃ s, runTrace P call ops l tm H = some (s, .go tm' H')
  | [], tm, H, tm', H', h => by cases h; exact ⟨_, rfl⟩
  | o :: l, tm, H, tm', H', h => by
    simp only [runOps] at h
    simp only [runTrace]
    cases hs : stepA P call ops o tm H with
    | none => rw [hs] at h; cases h
    | some x =>
      rw [hs] at h
      cases x with
      | go tm1 H1 =>
        obtain ⟨s, h2⟩ := trace_run h
        exact ⟨_, by simp only [h2]; rfl⟩
      | pan v H1 => cases h
theorem drawF_ok {call : CallF} {call' : CallFn} (hc : CLe call call') (ops : Array Oper) {t : Tr} {tm : List AV} {H : Heap} {r : SF} (hr : Rep t tm) (h : drawF P call ops t H = some r) :
    ∃ tm' t' H', runDraw P call' ops tm H = some (.go tm' H') ∧ Rep t' tm' ∧ r = .go t' H' := by
  unfold drawF at h
  cases hn : noPairs P ops with
  | true =>
    rw [hn] at h
    have h : drEasy (runF P call ops ops.toList t H) = some r := h
    unfold noPairs at hn
    split at hn <;> try (cases hn; done)
    rename_i hp
    cases he : runF P call ops ops.toList t H with
    | none => rw [he] at h; cases h
    | some x =>
      rw [he] at h
      rcases runF_ok P hc ops _ hr he with ⟨tm', t', H', h1, h2, h3⟩ | ⟨v, H', h1, h2⟩
      · subst h3
        cases h
        obtain ⟨s, hs⟩ := trace_run P h1
        refine ⟨tm', t', H', ?_, h2, rfl⟩
        unfold runDraw
        rw [if_pos hn, hs, hp]
        rfl
      · subst h2; cases h
  | false =>
    rw [hn] at h
    have h : drHard P ops (trcF P call ops ops.toList [] t H) = some r := h
    cases he : trcF P call ops ops.toList [] t H with
    | none => rw [he] at h; cases h
    | some x =>
      rw [he] at h
      cases x with
      | trc s t' H' =>
        have h : drH1 P ops s t' H' = some r := h
        obtain ⟨tm', l', l2, h1, h2, h3, h4⟩ := trcF_ok P hc ops _ hr he
        unfold drH1 at h
        cases hp : pairsOf P ops.toList with
        | none => rw [hp] at h; cases h
        | some ps =>
          rw [hp] at h
          have h : drH2 P ops s.reverse t' H' ps = some r := h
          unfold drH2 at h
          cases hk : drChk P ops s.reverse ps with
          | false => rw [hk] at h; cases h
          | true =>
            rw [hk] at h
            cases h
            refine ⟨tm', t', H', ?_, h2, rfl⟩
            unfold drChk at hk
            rw [Bool.and_eq_true] at hk
            have hs : s.reverse = l2 := by rw [h3]; simp
            rw [hs] at hk
            unfold runDraw
            rw [if_pos hk.1, h1, hp]
            have : (ps.all fun x => match x with | (i, j) => pairOk P ops l' i j) = true := by
              rw [List.all_eq_true] at hk ⊢
              intro x hx
              have := hk.2 x hx
              obtain ⟨i, j⟩ := x
              rw [pairF_ok P h4] at this
              exact this
            dsimp only
            rw [if_pos this]
      | _ => cases h

/-! code -/
def ofG (t : Tr) (H : Heap) : R := some (.go t H)
def cSkip (t : Tr) (H : Heap) : R := some (.go t H)
def cRegion (call : CallF) (_ : Nat) (ops : Array Oper) (draw : Bool) : K := @Bool.rec (fun _ => K) (runF P call ops ops.toList) (drawF P call ops) draw
def sqG (t : Tr) (H : Heap) (ih : K) : R := ih t H
def sqP (v : AV) (H : Heap) (_ : K) : R := some (.pan v H)
def sqX (id : Nat) (t : Tr) (H : Heap) (_ : K) : R := some (.ext id t H)
def sqR (t : Tr) (H : Heap) (_ : K) : R := some (.ret t H)
def sqT (_ : Sn) (_ : Tr) (_ : Heap) (_ : K) : R := none
def sqV (_ : AV) (_ : Heap) (_ : K) : R := none
def sq1 (r : SF) : K → R := @SF.casesOn (fun _ => K → R) r sqG sqP sqT sqX sqR sqV
def sq0 (_ : K) : R := none
def sq (r : R) : K → R := @Option.rec SF (fun _ => K → R) sq0 sq1 r
def cSeq (_ _ : Code) (a b : K) (t : Tr) (H : Heap) : R := sq (a t H) b
def cCond (c : Operand) (_ _ : Code) (a b : K) (t : Tr) (H : Heap) : R := evK c t (caseBool none fun x => @Bool.rec (fun _ => K) b a x t H)
def blX2 (i : Nat) (t : Tr) (H : Heap) (e : Bool) : R := @Bool.rec (fun _ => R) (some (.ext i t H)) (some (.go t H)) e
def blX (i : Nat) (t : Tr) (H : Heap) (id : Nat) : R := blX2 i t H (Nat.beq i id)
def blG (t : Tr) (H : Heap) (_ : Nat) : R := some (.go t H)
def blP (v : AV) (H : Heap) (_ : Nat) : R := some (.pan v H)
def blR (t : Tr) (H : Heap) (_ : Nat) : R := some (.ret t H)
def blT (_ : Sn) (_ : Tr) (_ : Heap) (_ : Nat) : R := none
def blV (_ : AV) (_ : Heap) (_ : Nat) : R := none
def bl1 (r : SF) : Nat → R := @SF.casesOn (fun _ => Nat → R) r blG blP blT blX blR blV
def bl0 (_ : Nat) : R := none
def bl (r : R) : Nat → R := @Option.rec SF (fun _ => Nat → R) bl0 bl1 r
def cBlock (id : Nat) (_ : Code) (b : K) (t : Tr) (H : Heap) : R := bl (b t H) id
def it0 (_ : K) (_ : Tr) (_ : Heap) : R := none
def it1 (_ : Nat) (ih : K → K) (b : K) (t : Tr) (H : Heap) : R := sq (b t H) (ih b)
def iterF (n : Nat) : K → K := @Nat.rec (fun _ => K → K) it0 it1 n
def cLoop (n : Nat) (_ : Code) (b : K) : K := iterF n b
def cScope (_ : Code) (b : K) : K := b
def cExit (id : Nat) (t : Tr) (H : Heap) : R := some (.ext id t H)
def cRet (t : Tr) (H : Heap) : R := some (.ret t H)
def cNo (t : Tr) (H : Heap) : R := none
def runC (call : CallF) (n : Nat) (c : Code) : K :=
  @Code.rec (fun _ => K) cSkip (cRegion P call) cSeq cCond cBlock (cLoop n) (fun _ _ _ _ _ _ => cNo) cExit cScope (fun _ => cSkip) (fun _ => cNo) cRet (fun _ => cNo) c

/-- What a piece of code gives, in the form of the machine. -/
inductive XRep : SF → AX × List AV × Heap → Prop where
  | go {t : Tr} {tm : List AV} {H : Heap} : Rep t tm → XRep (.go t H) (.normal, tm, H)
  | ext {id : Nat} {t : Tr} {tm : List AV} {H : Heap} : Rep t tm → XRep (.ext id t H) (.exit id, tm, H)
  | ret {t : Tr} {tm : List AV} {H : Heap} : Rep t tm → XRep (.ret t H) (.ret, tm, H)
  | pan {v : AV} {tm : List AV} {H : Heap} : XRep (.pan v H) (.pan v, tm, H)

theorem sq_ok {r : R} {b : K} {s : SF} (h : sq r b = some s) : ∃ x, r = some x ∧ sq1 x b = some s := by
  cases r with
  | none => cases h
  | some x => exact ⟨x, rfl, h⟩
theorem iterF_ok {b : K} {b' : List AV → Heap → Option (AX × List AV × Heap)} (hb : ∀ t tm H r, Rep t tm → b t H = some r → ∃ y, b' tm H = some y ∧ XRep r y) : ∀ (n : Nat) {t : Tr} {tm : List AV} {H : Heap} {r : SF}, Rep t tm → iterF n b t H = some r → ∃ y, iter b' n tm H = some y ∧ XRep r y
  | 0, _, _, _, _, _, h => by cases h
  | n + 1, t, tm, H, r, hr, h => by
    have h : sq (b t H) (iterF n b) = some r := h
    obtain ⟨x, h1, h2⟩ := sq_ok h
    obtain ⟨y, h3, h4⟩ := hb t tm H x hr h1
    cases h4 with
    | go hr' =>
      obtain ⟨z, h5, h6⟩ := iterF_ok hb n hr' h2
      exact ⟨z, by simp only [iter, h3, h5], h6⟩
    | ext hr' => cases h2; exact ⟨_, by simp only [iter, h3], .ext hr'⟩
    | ret hr' => cases h2; exact ⟨_, by simp only [iter, h3], .ret hr'⟩
    | @pan v tm' H' => cases h2; exact ⟨(.pan v, tm', H'), by simp only [iter, h3], .pan⟩
theorem runC_ok {call : CallF} {call' : CallFn} (hc : CLe call call') (n : Nat) : ∀ (c : Code) {t : Tr} {tm : List AV} {H : Heap} {r : SF}, Rep t tm → runC P call n c t H = some r → ∃ y, runCode P call' n c tm H = some y ∧ XRep r y := by
  intro c
  induction c with
  | skip => intro t tm H r hr h; cases h; exact ⟨_, rfl, .go hr⟩
  | label l => intro t tm H r hr h; cases h; exact ⟨_, rfl, .go hr⟩
  | exit id => intro t tm H r hr h; cases h; exact ⟨_, rfl, .ext hr⟩
  | ret => intro t tm H r hr h; cases h; exact ⟨_, rfl, .ret hr⟩
  | goto l => intro t tm H r hr h; cases h
  | refuse l => intro t tm H r hr h; cases h
  | rangeFunc f p a b iha ihb => intro t tm H r hr h; cases h
  | region id ops draw =>
    intro t tm H r hr h
    cases draw with
    | false =>
      have h : runF P call ops ops.toList t H = some r := h
      rcases runF_ok P hc ops _ hr h with ⟨tm', t', H', h1, h2, h3⟩ | ⟨v, H', h1, h2⟩
      · subst h3; exact ⟨_, by simp only [runCode, h1]; rfl, .go h2⟩
      · subst h2; exact ⟨_, by simp only [runCode, h1]; rfl, .pan⟩
    | true =>
      have h : drawF P call ops t H = some r := h
      obtain ⟨tm', t', H', h1, h2, h3⟩ := drawF_ok P hc ops hr h
      subst h3; exact ⟨_, by simp only [runCode, h1]; rfl, .go h2⟩
  | seq a b iha ihb =>
    intro t tm H r hr h
    have h : sq (runC P call n a t H) (runC P call n b) = some r := h
    obtain ⟨x, h1, h2⟩ := sq_ok h
    obtain ⟨y, h3, h4⟩ := iha hr h1
    cases h4 with
    | go hr' =>
      obtain ⟨z, h5, h6⟩ := ihb hr' h2
      exact ⟨z, by simp only [runCode, h3, h5], h6⟩
    | ext hr' => cases h2; exact ⟨_, by simp only [runCode, h3], .ext hr'⟩
    | ret hr' => cases h2; exact ⟨_, by simp only [runCode, h3], .ret hr'⟩
    | @pan v tm' H' => cases h2; exact ⟨(.pan v, tm', H'), by simp only [runCode, h3], .pan⟩
  | cond c a b iha ihb =>
    intro t tm H r hr h
    have h : evK c t (caseBool none fun x => @Bool.rec (fun _ => K) (runC P call n b) (runC P call n a) x t H) = some r := h
    rw [evK_eq, rdr_eq hr] at h
    have e : ev tm c = evF (fun i => tm.getD i .undef) c := congrFun (ev_rl tm) c
    rw [← e] at h
    simp only [runCode]
    cases hv : ev tm c with
    | none => rw [hv] at h; cases h
    | some v =>
      rw [hv] at h
      cases v with
      | bool x => cases x with
        | true => exact iha hr h
        | false => exact ihb hr h
      | _ => cases h
  | block id b ih =>
    intro t tm H r hr h
    have h : bl (runC P call n b t H) id = some r := h
    cases hx : runC P call n b t H with
    | none => rw [hx] at h; cases h
    | some x =>
      rw [hx] at h
      obtain ⟨y, h3, h4⟩ := ih hr hx
      cases h4 with
      | go hr' => cases h; exact ⟨_, by simp only [runCode, h3], .go hr'⟩
      | ret hr' => cases h; exact ⟨_, by simp only [runCode, h3], .ret hr'⟩
      | @pan v tm' H' => cases h; exact ⟨(.pan v, tm', H'), by simp only [runCode, h3], .pan⟩
      | @ext i t' tm' H' hr' =>
        have h : blX2 i t' H' (Nat.beq i id) = some r := h
        unfold blX2 at h
        cases hi : Nat.beq i id with
        | true =>
          rw [hi] at h
          cases h
          exact ⟨_, by simp only [runCode, h3, Nat.eq_of_beq_eq_true hi, if_true], .go hr'⟩
        | false =>
          rw [hi] at h
          cases h
          exact ⟨_, by simp only [runCode, h3, if_neg (Nat.ne_of_beq_eq_false hi)], .ext hr'⟩
  | loop b ih =>
    intro t tm H r hr h
    have h : iterF n (runC P call n b) t H = some r := h
    obtain ⟨y, h1, h2⟩ := iterF_ok (b' := fun tm H => runCode P call' n b tm H) (fun t tm H r hr h => ih hr h) n hr h
    exact ⟨y, by simp only [runCode]; exact h1, h2⟩
  | scope b ih =>
    intro t tm H r hr h
    obtain ⟨y, h1, h2⟩ := ih hr h
    exact ⟨y, by simp only [runCode]; exact h1, h2⟩
end
end
end Go.Ab.F

/- The abstract machine for the kernel: results, bodies, calls. -/
namespace Go.Ab.F
set_option linter.unusedVariables false
noncomputable section
section
variable (P : Program)

/-! results -/
def kvc (k : VK) (v : AV) (_ : Heap) : R := k v
def r1T (n : Nat) (t : Tr) (H : Heap) (k : VK) : R := getK (pth n) t k
def r1C (a : Nat) (ty : TypeId) (t : Tr) (H : Heap) (k : VK) : R := getK (pth a) t (ldK P ty H (kvc k))
def r1 (x : ResultVar) : Tr → Heap → VK → R := @ResultVar.casesOn (fun _ => Tr → Heap → VK → R) x r1T (r1C P)
theorem r1_eq {t : Tr} {tm : List AV} (hr : Rep t tm) (x : ResultVar) (H : Heap) (k : VK) : r1 P x t H k = match resA1 P tm H x with | some v => k v | none => none := by
  have hg : ∀ n, getT (pth n) t = tm.getD n .undef := fun n => congrFun (rdr_eq hr) n
  cases x with
  | tmp n =>
    show getK (pth n) t k = _
    rw [getK_eq, hg]; rfl
  | cell a ty =>
    show getK (pth a) t (ldK P ty H (kvc k)) = _
    rw [getK_eq, hg, ldK_eq]
    simp only [resA1, kvc]
    rfl
def rlN (t : Tr) (H : Heap) (k : List AV → R) : R := k []
def rlC2 (v : AV) (k : List AV → R) (vs : List AV) : R := k (v :: vs)
def rlC1 (ih : Tr → Heap → (List AV → R) → R) (t : Tr) (H : Heap) (k : List AV → R) (v : AV) : R := ih t H (rlC2 v k)
def rlC (x : ResultVar) (_ : List ResultVar) (ih : Tr → Heap → (List AV → R) → R) (t : Tr) (H : Heap) (k : List AV → R) : R := r1 P x t H (rlC1 ih t H k)
def resL (l : List ResultVar) : Tr → Heap → (List AV → R) → R := @List.rec ResultVar (fun _ => Tr → Heap → (List AV → R) → R) rlN (rlC P) l
theorem resL_eq {t : Tr} {tm : List AV} (hr : Rep t tm) : ∀ (l : List ResultVar) (H : Heap) (k : List AV → R), resL P l t H k = match mapO (resA1 P tm H) l with | some vs => k vs | none => none
  | [], H, k => rfl
  | x :: l, H, k => by
    show r1 P x t H (rlC1 (resL P l) t H k) = _
    rw [r1_eq P hr]
    simp only [mapO]
    cases resA1 P tm H x with
    | none => rfl
    | some v =>
      show resL P l t H (rlC2 v k) = _
      rw [resL_eq hr l]
      cases mapO (resA1 P tm H) l <;> rfl
def tpC (H : Heap) (v : AV) (l : List AV) : R := @List.casesOn AV (fun _ => R) l (some (.res v H)) (fun w l' => some (.res (.tup (v :: w :: l')) H))
def tpK (H : Heap) (vs : List AV) : R := @List.casesOn AV (fun _ => R) vs (some (.res (.tup []) H)) (tpC H)
def resK (fn : Func) (t : Tr) (H : Heap) : R := resL P fn.results.toList t H (tpK H)
theorem resK_ok {t : Tr} {tm : List AV} (hr : Rep t tm) (fn : Func) (H : Heap) {r : SF} (h : resK P fn t H = some r) : ∃ v, resA P fn tm H = some v ∧ r = .res v H := by
  unfold resK at h
  rw [resL_eq P hr] at h
  unfold resA
  cases hm : mapO (resA1 P tm H) fn.results.toList with
  | none => rw [hm] at h; cases h
  | some vs =>
    rw [hm] at h
    match vs, h with
    | [], h => cases h; exact ⟨_, rfl, rfl⟩
    | [v], h => cases h; exact ⟨_, rfl, rfl⟩
    | v :: w :: l, h => cases h; exact ⟨_, rfl, rfl⟩

/-! bodies -/
def saN (_ : Nat) (t : Tr) (k : Tr → R) : R := k t
def saC1 (ih : Nat → Tr → (Tr → R) → R) (i : Nat) (k : Tr → R) (t : Tr) : R := ih (Nat.succ i) t k
def saC (v : AV) (_ : List AV) (ih : Nat → Tr → (Tr → R) → R) (i : Nat) (t : Tr) (k : Tr → R) : R := setT (pth i) t v (saC1 ih i k)
def setAll (l : List AV) : Nat → Tr → (Tr → R) → R := @List.rec AV (fun _ => Nat → Tr → (Tr → R) → R) saN saC l
def setAllS : List AV → Nat → Tr → Tr
  | [], _, t => t
  | v :: l, i, t => setAllS l (i + 1) (setS t (pth i) v)
theorem setAll_eq : ∀ (l : List AV) (i : Nat) (t : Tr) (k : Tr → R), setAll l i t k = k (setAllS l i t)
  | [], i, t, k => rfl
  | v :: l, i, t, k => by
    show setT (pth i) t v (saC1 (setAll l) i k) = _
    rw [setT_eq]
    exact setAll_eq l (i + 1) _ k
theorem rep_setAll : ∀ (l : List AV) (pre : List AV) (m : Nat) (t : Tr), l.length ≤ m → Rep t (pre ++ List.replicate m .undef) → Rep (setAllS l pre.length t) (pre ++ (l ++ List.replicate (m - l.length) .undef))
  | [], pre, m, t, _, h => by simpa [setAllS] using h
  | v :: l, pre, m, t, hl, h => by
    simp only [List.length_cons] at hl
    obtain ⟨m, rfl⟩ : ∃ k, m = k + 1 := ⟨m - 1, by omega⟩
    have h2 := rep_set h pre.length v
    have e : (pre ++ List.replicate (m + 1) AV.undef).set pre.length v = (pre ++ [v]) ++ List.replicate m .undef := by
      rw [List.replicate_succ]; simp
    rw [e] at h2
    have h3 := rep_setAll l (pre ++ [v]) m _ (by omega) h2
    have e2 : (pre ++ [v]).length = pre.length + 1 := by simp
    rw [e2] at h3
    have e3 : (pre ++ [v]) ++ (l ++ List.replicate (m - l.length) AV.undef) = pre ++ ((v :: l) ++ List.replicate (m + 1 - (v :: l).length) .undef) := by simp
    rw [e3] at h3
    exact h3
def cb4 (fn : Func) (t : Tr) (H : Heap) : R := resK P fn t H
def cb3 (fn : Func) (r : SF) : R := @SF.casesOn (fun _ => R) r (cb4 P fn) (fun v H => some (.pan v H)) nn3 nn3 (cb4 P fn) nn2
def cb2 (call : CallF) (n : Nat) (fn : Func) (c : Code) (H : Heap) (t : Tr) : R := @Option.rec SF (fun _ => R) none (cb3 P fn) (runC P call n c t H)
def cb1 (call : CallF) (n : Nat) (fn : Func) (args : List AV) (H : Heap) (c : Code) : R := @Bool.rec (fun _ => R) none (setAll args 0 (mkT fn.ntmps) (cb2 P call n fn c H)) (Nat.ble (lenF args 0) fn.ntmps)
def callBodyF (call : CallF) (n : Nat) (fn : Func) (args : List AV) (H : Heap) : R := @Option.rec Code (fun _ => R) none (cb1 P call n fn args H) fn.body
theorem callBodyF_ok {call : CallF} {call' : CallFn} (hc : CLe call call') (n : Nat) (fn : Func) (args : List AV) (H : Heap) {r : SF} (h : callBodyF P call n fn args H = some r) : ∃ p, toCR r = some p ∧ callBody P call' n fn args H = some p := by
  unfold callBodyF at h
  unfold callBody
  cases hb : fn.body with
  | none => rw [hb] at h; cases h
  | some c =>
    rw [hb] at h
    have h : cb1 P call n fn args H c = some r := h
    unfold cb1 at h
    rw [lenF_eq, Nat.zero_add] at h
    cases hl : Nat.ble args.length fn.ntmps with
    | false => rw [hl] at h; cases h
    | true =>
      rw [hl] at h
      have hl := Nat.le_of_ble_eq_true hl
      have h : setAll args 0 (mkT fn.ntmps) (cb2 P call n fn c H) = some r := h
      rw [setAll_eq] at h
      have hr : Rep (setAllS args 0 (mkT fn.ntmps)) (args ++ List.replicate (fn.ntmps - args.length) .undef) := rep_setAll args [] fn.ntmps _ hl (rep_mkT _)
      unfold cb2 at h
      cases hx : runC P call n c (setAllS args 0 (mkT fn.ntmps)) H with
      | none => rw [hx] at h; cases h
      | some x =>
        rw [hx] at h
        obtain ⟨y, h1, h2⟩ := runC_ok P hc n c hr hx
        dsimp only
        rw [h1]
        cases h2 with
        | go hr' =>
          obtain ⟨v, h3, h4⟩ := resK_ok P hr' fn _ h
          subst h4
          exact ⟨_, rfl, by simp only [h3]⟩
        | ret hr' =>
          obtain ⟨v, h3, h4⟩ := resK_ok P hr' fn _ h
          subst h4
          exact ⟨_, rfl, by simp only [h3]⟩
        | ext hr' => cases h
        | pan => cases h; exact ⟨_, rfl, rfl⟩

/-! trees -/
def chZ (esz : Nat) (cs : List AV) (k : List (List AV) → R) : R := k []
def chS2 (row : List AV) (k : List (List AV) → R) (rows : List (List AV)) : R := k (row :: rows)
def chS1 (ih : List AV → (List (List AV) → R) → R) (rest : List AV) (k : List (List AV) → R) (row : List AV) : R := ih rest (chS2 row k)
def chS (esz : Nat) (_ : Nat) (ih : List AV → (List (List AV) → R) → R) (cs : List AV) (k : List (List AV) → R) : R := fList (cs.take esz) (chS1 ih (cs.drop esz) k)
def chK (esz n : Nat) : List AV → (List (List AV) → R) → R := @Nat.rec (fun _ => List AV → (List (List AV) → R) → R) (chZ esz) (chS esz) n
theorem chK_eq (esz : Nat) : ∀ (n : Nat) (cs : List AV) (k : List (List AV) → R), chK esz n cs k = k (chunk esz n cs)
  | 0, cs, k => rfl
  | n + 1, cs, k => by
    show fList (cs.take esz) (chS1 (chK esz n) (cs.drop esz) k) = _
    rw [fList_eq, chS1, chK_eq esz n]; rfl
abbrev F1 := AV → VK → R
abbrev F2 := List AV → (List AV → R) → R
def fz1 (tmp : Bool) (H : Heap) (ihs : F2) (ih : F1) (v : AV) (c : VK) : R :=
  match v with
  | .sl id off len esz => match H.get id with
    | .row _ _ cs => if ((cs.drop off).take (len * esz)).length = len * esz ∧ 0 < esz then fList ((cs.drop off).take (len * esz)) fun r => ihs r fun cs' => chK esz len cs' fun rows => c (.isl tmp rows) else none
    | _ => none
  | .isl t rows => if tmp || !t then c (.isl t rows) else none
  | .eptr t cs off => if tmp || !t then c (.eptr t cs off) else none
  | .ptr .. | .map .. => none
  | .fn f cap => ihs cap fun cap' => c (.fn f cap')
  | .ifc t x => ih x fun x' => c (.ifc t x')
  | .agg cs => ihs cs fun cs' => c (.agg cs')
  | .tup cs => ihs cs fun cs' => c (.tup cs')
  | v => c v
def fz2C (ihs : F2) (ih : F1) (k : List AV → R) (x : AV) (xs : List AV) : R := ih x fun y => ihs xs fun ys => k (y :: ys)
def fz2 (ihs : F2) (ih : F1) (l : List AV) (k : List AV → R) : R := @List.casesOn AV (fun _ => R) l (k []) (fz2C ihs ih k)
def fzS (tmp : Bool) (H : Heap) (_ : Nat) (ih : F1 × F2) : F1 × F2 := (fz1 tmp H ih.2 ih.1, fz2 ih.2 ih.1)
def fzP (tmp : Bool) (H : Heap) (k : Nat) : F1 × F2 := @Nat.rec (fun _ => F1 × F2) (fun _ _ => none, fun _ _ => none) (fzS tmp H) k
theorem fzP_eq (tmp : Bool) (H : Heap) : ∀ k, (∀ v c, (fzP tmp H k).1 v c = match frz tmp H k v with | some v' => c v' | none => none) ∧ (∀ l c, (fzP tmp H k).2 l c = match frzs tmp H k l with | some v' => c v' | none => none)
  | 0 => ⟨fun v c => by rw [frz]; rfl, fun l c => by rw [frzs]; rfl⟩
  | k + 1 => by
    obtain ⟨h1, h2⟩ := fzP_eq tmp H k
    have e : fzP tmp H (k + 1) = (fz1 tmp H (fzP tmp H k).2 (fzP tmp H k).1, fz2 (fzP tmp H k).2 (fzP tmp H k).1) := rfl
    rw [e]
    refine ⟨fun v c => ?_, fun l c => ?_⟩
    · show fz1 tmp H (fzP tmp H k).2 (fzP tmp H k).1 v c = _
      cases v with
      | sl id off len esz =>
        simp only [fz1, frz]
        cases H.get id with
        | row bx e cs =>
          dsimp only
          split
          · rw [fList_eq, h2]
            cases frzs tmp H k ((cs.drop off).take (len * esz)) with
            | none => rfl
            | some r => dsimp only; rw [chK_eq]
          · rfl
        | _ => rfl
      | isl t rows => simp only [fz1, frz]; split <;> rfl
      | eptr t cs off => simp only [fz1, frz]; split <;> rfl
      | fn f cap => simp only [fz1, frz, h2]; cases frzs tmp H k cap <;> rfl
      | ifc t x => simp only [fz1, frz, h1]; cases frz tmp H k x <;> rfl
      | agg cs => simp only [fz1, frz, h2]; cases frzs tmp H k cs <;> rfl
      | tup cs => simp only [fz1, frz, h2]; cases frzs tmp H k cs <;> rfl
      | _ => simp [fz1, frz]
    · show fz2 (fzP tmp H k).2 (fzP tmp H k).1 l c = _
      cases l with
      | nil => simp [fz2, frzs]
      | cons x xs =>
        simp only [fz2, fz2C, frzs, h1, h2]
        cases frz tmp H k x with
        | none => rfl
        | some y =>
          dsimp only
          cases frzs tmp H k xs <;> rfl

/-! calls -/
def csC (c : CR) (H : Heap) : R := @CR.casesOn (fun _ => R) c (fun v => some (.res v H)) (fun v => some (.pan v H))
def csP (p : CR × Heap) : R := @Prod.rec CR Heap (fun _ => R) csC p
theorem csP_ok {p : CR × Heap} {r : SF} (h : csP p = some r) : toCR r = some p := by
  obtain ⟨c, H⟩ := p
  cases c <;> cases h <;> rfl
def toCall (c : CallF) : CallFn := fun f a H => match c f a H with | some r => toCR r | none => none
theorem csP_toCR {r : SF} {p : CR × Heap} (h : toCR r = some p) : csP p = some r := by
  cases r <;> cases h <;> rfl
def dfrF (call : CallF) (n : Nat) (fn : Func) (args : List AV) (H : Heap) : R := @Option.rec (CR × Heap) (fun _ => R) none csP (callDef P (toCall call) n fn args H)
def bodyF (cfg : Cfg) (call : CallF) (n : Nat) (f : FuncId) (fn : Func) (args : List AV) (H : Heap) : R := @Bool.rec (fun _ => R) (callBodyF P call n fn args H) (dfrF P call n fn args H) (cfg.dfr f)
def prV (H : Heap) (v : AV) : R := some (.res v H)
def prS (H : Heap) (v : AV) (H' : Heap) : R := (fzP false H' 100000).1 v (prV H)
def pr2 (H : Heap) (r : SF) : R := @SF.casesOn (fun _ => R) r nn2 nn2 nn3 nn3 nn2 (prS H)
def pr1 (cfg : Cfg) (call : CallF) (n : Nat) (f : FuncId) (fn : Func) (H : Heap) (args : List AV) : R := @Option.rec SF (fun _ => R) none (pr2 H) (bodyF P cfg call n f fn args Heap.empty)
def pureF (cfg : Cfg) (call : CallF) (n : Nat) (f : FuncId) (fn : Func) (args : List AV) (H : Heap) : R := (fzP true H 100000).2 args (pr1 P cfg call n f fn H)
def cf2 (cfg : Cfg) (call : CallF) (n : Nat) (f : FuncId) (args : List AV) (H : Heap) (fn : Func) : R := @Bool.rec (fun _ => R) (bodyF P cfg call n f fn args H) (pureF P cfg call n f fn args H) (cfg.pure f)
def cf1 (cfg : Cfg) (call : CallF) (n : Nat) (f : FuncId) (args : List AV) (H : Heap) : R := @Bool.rec (fun _ => R) none (@Option.rec Func (fun _ => R) none (cf2 P cfg call n f args H) (P.funcs[f]?)) (cfg.ok f)
def cfS (cfg : Cfg) (k : Nat) (ih : CallF) : CallF := fun f args H => @Option.rec (CR × Heap) (fun _ => R) (cf1 P cfg ih k f args H) csP (cfg.sum f args H)
def cfZ : CallF := fun _ _ _ => none
def callF (cfg : Cfg) (k : Nat) : CallF := @Nat.rec (fun _ => CallF) cfZ (cfS P cfg) k

end
end
end Go.Ab.F

/- The abstract machine for the kernel: what it answers is what the machine answers. -/
namespace Go.Ab.F
set_option linter.unusedVariables false
section
variable (P : Program)
def MLe (c c' : CallFn) : Prop := ∀ f a H p, c f a H = some p → c' f a H = some p
variable {c c' : CallFn} (hm : MLe c c')
include hm
theorem stepA_mono {ops : Array Oper} {o : Oper} {tm : List AV} {H : Heap} {r : SR} (h : stepA P c ops o tm H = some r) : stepA P c' ops o tm H = some r := by
  unfold stepA at h ⊢
  cases hw : wantedA ops o tm with
  | false => rw [hw] at h; exact h
  | true =>
    rw [hw] at h
    dsimp only at h ⊢
    cases ho : opA P o tm H with
    | none => rw [ho] at h; cases h
    | some x =>
      rw [ho] at h
      cases x with
      | val v H' => exact h
      | pan v => exact h
      | call f args =>
        dsimp only at h ⊢
        cases hc : c f args H with
        | none => rw [hc] at h; cases h
        | some p => rw [hc] at h; rw [hm _ _ _ _ hc]; exact h
theorem runOps_mono {ops : Array Oper} : ∀ {l : List Oper} {tm : List AV} {H : Heap} {r : SR}, runOps P c ops l tm H = some r → runOps P c' ops l tm H = some r
  | [], tm, H, r, h => h
  | o :: l, tm, H, r, h => by
    simp only [runOps] at h ⊢
    cases hs : stepA P c ops o tm H with
    | none => rw [hs] at h; cases h
    | some x =>
      rw [hs] at h
      rw [stepA_mono P hm hs]
      cases x with
      | go tm H => exact runOps_mono h
      | pan v H => exact h
theorem runTrace_mono {ops : Array Oper} : ∀ {l : List Oper} {tm : List AV} {H : Heap} {r : List (List AV × Heap) × SR}, runTrace P c ops l tm H = some r → runTrace P c' ops l tm H = some r
  | [], tm, H, r, h => h
  | o :: l, tm, H, r, h => by
    simp only [runTrace] at h ⊢
    cases hs : stepA P c ops o tm H with
    | none => rw [hs] at h; cases h
    | some x =>
      rw [hs] at h
      rw [stepA_mono P hm hs]
      cases x with
      | go tm1 H1 =>
        dsimp only at h ⊢
        cases ht : runTrace P c ops l tm1 H1 with
        | none => rw [ht] at h; cases h
        | some y => rw [ht] at h; rw [runTrace_mono ht]; exact h
      | pan v H => exact h
theorem runDraw_mono {ops : Array Oper} {tm : List AV} {H : Heap} {r : SR} (h : runDraw P c ops tm H = some r) : runDraw P c' ops tm H = some r := by
  unfold runDraw at h ⊢
  split at h
  · rename_i hk
    rw [if_pos hk]
    cases ht : runTrace P c ops ops.toList tm H with
    | none => rw [ht] at h; cases h
    | some y => rw [ht] at h; rw [runTrace_mono P hm ht]; exact h
  · cases h
omit hm in
theorem iter_mono {b b' : List AV → Heap → Option (AX × List AV × Heap)} (hb : ∀ tm H r, b tm H = some r → b' tm H = some r) : ∀ (n : Nat) (tm : List AV) (H : Heap) (r : AX × List AV × Heap), iter b n tm H = some r → iter b' n tm H = some r
  | 0, _, _, _, h => by cases h
  | n + 1, tm, H, r, h => by
    simp only [iter] at h ⊢
    cases hx : b tm H with
    | none => rw [hx] at h; cases h
    | some x =>
      rw [hx] at h
      rw [hb _ _ _ hx]
      obtain ⟨ax, tm', H'⟩ := x
      cases ax with
      | normal => exact iter_mono hb n _ _ _ h
      | _ => exact h
theorem runCode_mono (n : Nat) : ∀ (cd : Code) (tm : List AV) (H : Heap) (r : AX × List AV × Heap), runCode P c n cd tm H = some r → runCode P c' n cd tm H = some r := by
  intro cd
  induction cd with
  | region id ops draw =>
    intro tm H r h
    cases draw with
    | false =>
      simp only [runCode] at h ⊢
      cases hx : runOps P c ops ops.toList tm H with
      | none => rw [hx] at h; cases h
      | some x => rw [hx] at h; rw [runOps_mono P hm hx]; exact h
    | true =>
      simp only [runCode] at h ⊢
      cases hx : runDraw P c ops tm H with
      | none => rw [hx] at h; cases h
      | some x => rw [hx] at h; rw [runDraw_mono P hm hx]; exact h
  | seq a b iha ihb =>
    intro tm H r h
    simp only [runCode] at h ⊢
    cases hx : runCode P c n a tm H with
    | none => rw [hx] at h; cases h
    | some x =>
      rw [hx] at h
      rw [iha _ _ _ hx]
      obtain ⟨ax, tm', H'⟩ := x
      cases ax with
      | normal => exact ihb _ _ _ h
      | _ => exact h
  | cond o a b iha ihb =>
    intro tm H r h
    simp only [runCode] at h ⊢
    cases hv : ev tm o with
    | none => rw [hv] at h; cases h
    | some v =>
      rw [hv] at h
      cases v with
      | bool x => cases x with
        | true => exact iha _ _ _ h
        | false => exact ihb _ _ _ h
      | _ => exact h
  | block id b ih =>
    intro tm H r h
    simp only [runCode] at h ⊢
    cases hx : runCode P c n b tm H with
    | none => rw [hx] at h; cases h
    | some x => rw [hx] at h; rw [ih _ _ _ hx]; exact h
  | loop b ih =>
    intro tm H r h
    simp only [runCode] at h ⊢
    exact iter_mono ih n _ _ _ h
  | scope b ih =>
    intro tm H r h
    simp only [runCode] at h ⊢
    exact ih _ _ _ h
  | _ => intro tm H r h; simpa only [runCode] using h
theorem runSeq_mono (n : Nat) : ∀ (l : List Code) (tm : List AV) (H : Heap) (r : AX × List AV × Heap), runSeq P c n l tm H = some r → runSeq P c' n l tm H = some r
  | [], _, _, _, h => h
  | a :: l, tm, H, r, h => by
    simp only [runSeq] at h ⊢
    cases hx : runCode P c n a tm H with
    | none => rw [hx] at h; cases h
    | some x =>
      rw [hx] at h
      rw [runCode_mono P hm n _ _ _ _ hx]
      obtain ⟨ax, tm', H'⟩ := x
      cases ax with
      | normal => exact runSeq_mono n l _ _ _ h
      | _ => exact h
theorem runClosure_mono (n : Nat) {g : FuncId} {args : List AV} {rv : AV} {H : Heap} {r : Heap} (h : runClosure P c n g args rv H = some r) : runClosure P c' n g args rv H = some r := by
  unfold runClosure at h ⊢
  split at h <;> try (cases h; done)
  rename_i fn hf
  split at h <;> try (cases h; done)
  rename_i ops rest hb
  split at h <;> try (cases h; done)
  split at h <;> try (cases h; done)
  rename_i hx
  rw [runOps_mono P hm hx]
  dsimp only
  split at h <;> try (cases h; done)
  · rename_i hy
    rw [runCode_mono P hm _ _ _ _ _ hy]
    exact h
  · rename_i hy
    rw [runCode_mono P hm _ _ _ _ _ hy]
    exact h
theorem callDef_mono (n : Nat) {fn : Func} {args : List AV} {H : Heap} {r : CR × Heap} (h : callDef P c n fn args H = some r) : callDef P c' n fn args H = some r := by
  unfold callDef at h ⊢
  cases hb : fn.body with
  | none => rw [hb] at h; cases h
  | some cd =>
    rw [hb] at h
    dsimp only at h ⊢
    cases hs : splitDefer cd with
    | none => rw [hs] at h; cases h
    | some p =>
      rw [hs] at h
      obtain ⟨pre, t, g, caps, post⟩ := p
      dsimp only at h ⊢
      cases hx : runSeq P c n pre (args ++ List.replicate (fn.ntmps - args.length) .undef) H with
      | none => rw [hx] at h; cases h
      | some x =>
        rw [hx] at h
        rw [runSeq_mono P hm _ _ _ _ _ hx]
        obtain ⟨ax, tm, H1⟩ := x
        cases ax with
        | normal =>
          dsimp only at h ⊢
          cases hv : (if t < tm.length then evs tm caps.toList else none) with
          | none => rw [hv] at h; cases h
          | some vs =>
            rw [hv] at h
            dsimp only at h ⊢
            cases hy : runCode P c n post (tm.set t (.fn g vs)) H1 with
            | none => rw [hy] at h; cases h
            | some y =>
              rw [hy] at h
              rw [runCode_mono P hm _ _ _ _ _ hy]
              obtain ⟨ay, tm', H2⟩ := y
              cases ay with
              | normal =>
                dsimp only at h ⊢
                cases hz : runClosure P c n g vs .nili H2 with
                | none => rw [hz] at h; cases h
                | some z => rw [hz] at h; rw [runClosure_mono P hm n hz]; exact h
              | ret =>
                dsimp only at h ⊢
                cases hz : runClosure P c n g vs .nili H2 with
                | none => rw [hz] at h; cases h
                | some z => rw [hz] at h; rw [runClosure_mono P hm n hz]; exact h
              | pan p =>
                dsimp only at h ⊢
                split at h
                · rename_i hk
                  rw [if_pos hk]
                  cases hz : runClosure P c n g vs p H2 with
                  | none => rw [hz] at h; cases h
                  | some z => rw [hz] at h; rw [runClosure_mono P hm n hz]; exact h
                · cases h
              | exit i => exact h
        | _ => exact h
end

section
variable (P : Program)
theorem toCall_le {call : CallF} {call' : CallFn} (hc : CLe call call') : MLe (toCall call) call' := by
  intro f a H p h
  unfold toCall at h
  cases hx : call f a H with
  | none => rw [hx] at h; cases h
  | some r =>
    rw [hx] at h
    obtain ⟨q, h1, h2⟩ := hc f a H r hx
    have h : toCR r = some p := h
    rw [h1] at h
    cases h
    exact h2
theorem csO_ok {x : Option (CR × Heap)} {r : SF} (h : @Option.rec (CR × Heap) (fun _ => R) none csP x = some r) : ∃ p, x = some p ∧ toCR r = some p := by
  cases x with
  | none => cases h
  | some p => exact ⟨p, rfl, csP_ok h⟩
theorem bodyF_ok (cfg : Cfg) {call : CallF} {call' : CallFn} (hc : CLe call call') (n : Nat) (f : FuncId) (fn : Func) (args : List AV) (H : Heap) {r : SF} (h : bodyF P cfg call n f fn args H = some r) : ∃ p, toCR r = some p ∧ bodyA P cfg call' n f fn args H = some p := by
  unfold bodyF at h
  unfold bodyA
  cases hd : cfg.dfr f with
  | false =>
    rw [hd] at h
    exact callBodyF_ok P hc n fn args H h
  | true =>
    rw [hd] at h
    obtain ⟨p, h1, h2⟩ := csO_ok h
    exact ⟨p, h2, callDef_mono P (toCall_le hc) n h1⟩
theorem callF_ok (cfg : Cfg) : ∀ k, CLe (callF P cfg k) (callN P cfg k)
  | 0 => fun f a H r h => by cases h
  | k + 1 => fun f args H r h => by
    have h : @Option.rec (CR × Heap) (fun _ => R) (cf1 P cfg (callF P cfg k) k f args H) csP (cfg.sum f args H) = some r := h
    simp only [callN]
    cases hs : cfg.sum f args H with
    | some p => rw [hs] at h; exact ⟨p, csP_ok h, rfl⟩
    | none =>
      rw [hs] at h
      dsimp only at h ⊢
      unfold cf1 at h
      cases hk : cfg.ok f with
      | false => rw [hk] at h; cases h
      | true =>
        rw [hk] at h
        dsimp only at h ⊢
        cases hf : P.funcs[f]? with
        | none => rw [hf] at h; cases h
        | some fn =>
          rw [hf] at h
          have h : cf2 P cfg (callF P cfg k) k f args H fn = some r := h
          unfold cf2 at h
          dsimp only
          cases hp : cfg.pure f with
          | false =>
            rw [hp] at h
            exact bodyF_ok P cfg (callF_ok cfg k) k f fn args H h
          | true =>
            rw [hp] at h
            have h : (fzP true H 100000).2 args (pr1 P cfg (callF P cfg k) k f fn H) = some r := h
            rw [(fzP_eq true H 100000).2] at h
            cases ha : frzs true H 100000 args with
            | none => rw [ha] at h; cases h
            | some args' =>
              rw [ha] at h
              have h : pr1 P cfg (callF P cfg k) k f fn H args' = some r := h
              unfold pr1 at h
              dsimp only
              cases hb : bodyF P cfg (callF P cfg k) k f fn args' Heap.empty with
              | none => rw [hb] at h; cases h
              | some s =>
                rw [hb] at h
                obtain ⟨p, h1, h2⟩ := bodyF_ok P cfg (callF_ok cfg k) k f fn args' Heap.empty hb
                rw [h2]
                cases s with
                | res v H' =>
                  cases h1
                  have h : (fzP false H' 100000).1 v (prV H) = some r := h
                  rw [(fzP_eq false H' 100000).1] at h
                  dsimp only
                  cases hv : frz false H' 100000 v with
                  | none => rw [hv] at h; cases h
                  | some v' => rw [hv] at h; cases h; exact ⟨_, rfl, rfl⟩
                | _ => cases h
end
end Go.Ab.F

/- The abstract machine: summaries, definitions alone. -/
namespace Go.Ab
set_option linter.unusedVariables false
noncomputable def selA (b : Bool) (x y : List AV → Heap → Option (CR × Heap)) : List AV → Heap → Option (CR × Heap) := @Bool.rec (fun _ => List AV → Heap → Option (CR × Heap)) y x b
def sIndexByte (args : List AV) (H : Heap) : Option (CR × Heap) :=
  match args with
  | [.str s, .int .u8 c] => some (.ret (.int .i64 (Lib.indexByte s c.toNat.toUInt8)), H)
  | _ => none
def sSame (args : List AV) (H : Heap) : Option (CR × Heap) :=
  match args with
  | [x] => some (.ret x, H)
  | _ => none
def ascii (s : List UInt8) : Bool := s.all fun b => Nat.ble (b.toNat + 1) 128
def sFields (args : List AV) (H : Heap) : Option (CR × Heap) :=
  match args with
  | [.str s] => match ascii s && Nat.ble (s.length + 1) 4294967281 with
    | true => some (.ret (.isl false ((Lib.fields s).map fun l => [.str l])), H)
    | false => none
  | _ => none


noncomputable def tabS (test : List AV → Bool) (v : AV) (xs : List AV) (H : Heap) : Option (CR × Heap) := @Bool.rec (fun _ => Option (CR × Heap)) none (some (.ret v, H)) (test xs)
def isNil (xs : List AV) : Bool := match xs with | [] => true | _ => false
noncomputable def isStr1 (s : List UInt8) (xs : List AV) : Bool := match xs with | [.str t] => F.eqB t s | _ => false
end Go.Ab

/- The abstract machine: more summaries, definitions alone. -/
namespace Go.Ab
set_option linter.unusedVariables false
def inI64 (n : Int) : Bool := Nat.ble n.toNat 9223372036854775807 && Nat.ble (-n).toNat 9223372036854775808
def isTen (n : Int) : Bool := match n with | .ofNat m => Nat.beq m 10 | _ => false
def itoaK (n : Int) : List UInt8 := match n with
  | .ofNat m => match Nat.ble m 9 with
    | true => [UInt8.ofNat (48 + m)]
    | false => Lib.itoa n
  | _ => Lib.itoa n
def sFormatInt (args : List AV) (H : Heap) : Option (CR × Heap) :=
  match args with
  | [.int .i64 n, .int .i64 b] => match inI64 n && isTen b with
    | true => some (.ret (.str (itoaK n)), H)
    | false => none
  | _ => none

def sCmpString (args : List AV) (H : Heap) : Option (CR × Heap) :=
  match args with
  | [.str a, .str b] => some (.ret (.int .i64 (Lib.compareBytes a b)), H)
  | _ => none
noncomputable def orS (s t : List AV → Heap → Option (CR × Heap)) (xs : List AV) (H : Heap) : Option (CR × Heap) := @Option.rec (CR × Heap) (fun _ => Option (CR × Heap)) (t xs H) (fun r => some r) (s xs H)
noncomputable def isArgs (ys xs : List AV) : Bool := AV.beqs xs ys
end Go.Ab
