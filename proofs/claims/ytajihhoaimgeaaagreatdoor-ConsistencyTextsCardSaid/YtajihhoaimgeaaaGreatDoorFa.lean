/- The abstract machine for the kernel: slots as a tree, raw recursors, closed cases. Slots. -/
import Derived.Test.YtajihhoaimgeaaaGreatDoorAa
set_option linter.unusedVariables false
set_option linter.unusedSimpArgs false
set_option linter.unusedSectionVars false
set_option linter.unnecessarySimpa false
namespace Go.Ab.F
set_option linter.unusedVariables false
noncomputable section

/-- Slots: a Braun tree. -/
inductive Tr where
  | lf
  | nd (v : AV) (l r : Tr)

/-- A path to a slot. -/
inductive Pa where
  | z
  | o (p : Pa)
  | e (p : Pa)
  deriving DecidableEq

def pthF : Nat → Nat → Pa
  | 0, _ => .z
  | _ + 1, 0 => .z
  | f + 1, n + 1 => bif Nat.beq (n % 2) 0 then .o (pthF f (n / 2)) else .e (pthF f (n / 2))
def pth (n : Nat) : Pa := pthF (n + 1) n

def get? : Tr → Pa → Option AV
  | .lf, _ => none
  | .nd v _ _, .z => some v
  | .nd _ l _, .o p => get? l p
  | .nd _ _ r, .e p => get? r p
def setS : Tr → Pa → AV → Tr
  | .lf, _, _ => .lf
  | .nd _ l r, .z, v => .nd v l r
  | .nd x l r, .o p, v => .nd x (setS l p v) r
  | .nd x l r, .e p, v => .nd x l (setS r p v)

theorem get_set : ∀ (t : Tr) (p q : Pa) (v : AV), get? (setS t p v) q = if p = q then (get? t q).map (fun _ => v) else get? t q
  | .lf, p, q, v => by simp [setS, get?]
  | .nd x l r, .z, .z, v => by simp [setS, get?]
  | .nd x l r, .z, .o q, v => by simp [setS, get?]
  | .nd x l r, .z, .e q, v => by simp [setS, get?]
  | .nd x l r, .o p, .z, v => by simp [setS, get?]
  | .nd x l r, .o p, .o q, v => by simp [setS, get?, get_set l p q v]
  | .nd x l r, .o p, .e q, v => by simp [setS, get?]
  | .nd x l r, .e p, .z, v => by simp [setS, get?]
  | .nd x l r, .e p, .o q, v => by simp [setS, get?]
  | .nd x l r, .e p, .e q, v => by simp [setS, get?, get_set r p q v]

def ix : Pa → Nat
  | .z => 0
  | .o p => 2 * ix p + 1
  | .e p => 2 * ix p + 2
theorem ix_pthF : ∀ (f n : Nat), n < f → ix (pthF f n) = n
  | 0, _, h => by omega
  | _ + 1, 0, _ => rfl
  | f + 1, n + 1, h => by
    have ih := ix_pthF f (n / 2) (by omega)
    simp only [pthF]
    by_cases hp : n % 2 = 0
    · have : Nat.beq (n % 2) 0 = true := by rw [hp]; rfl
      rw [this]; simp only [cond_true, ix, ih]; omega
    · have : Nat.beq (n % 2) 0 = false := by
        cases h : Nat.beq (n % 2) 0 with
        | true => exact absurd (Nat.eq_of_beq_eq_true h) hp
        | false => rfl
      rw [this]; simp only [cond_false, ix, ih]; omega
theorem ix_pth (n : Nat) : ix (pth n) = n := ix_pthF _ _ (by omega)
theorem pth_inj {i j : Nat} (h : pth i = pth j) : i = j := by rw [← ix_pth i, ← ix_pth j, h]

/-- The tree holds these slots. -/
def Rep (t : Tr) (tm : List AV) : Prop := ∀ i, get? t (pth i) = tm[i]?

theorem rep_set {t : Tr} {tm : List AV} (h : Rep t tm) (d : Nat) (v : AV) : Rep (setS t (pth d) v) (tm.set d v) := by
  intro i
  rw [get_set, List.getElem?_set, h i]
  by_cases hd : d = i
  · subst hd
    simp only [if_true]
    by_cases hl : d < tm.length
    · simp [hl]
    · simp [hl]
  · have : ¬ pth d = pth i := fun e => hd (pth_inj e)
    simp [hd, this]

/-- A tree of n empty slots. -/
def mkF : Nat → Nat → Tr
  | 0, _ => .lf
  | _ + 1, 0 => .lf
  | f + 1, n + 1 => .nd .undef (mkF f ((n + 1) / 2)) (mkF f (n / 2))
def mkT (n : Nat) : Tr := mkF n n
theorem get_mkF : ∀ (f n : Nat) (p : Pa), n ≤ f → get? (mkF f n) p = if ix p < n then some .undef else none
  | 0, n, p, h => by
    have : n = 0 := by omega
    subst this
    simp [mkF, get?]
  | f + 1, 0, p, h => by simp [mkF, get?]
  | f + 1, n + 1, .z, h => by simp [mkF, get?, ix]
  | f + 1, n + 1, .o p, h => by
    have e : ix (.o p) = 2 * ix p + 1 := rfl
    simp only [mkF, get?]
    rw [get_mkF f ((n + 1) / 2) p (by omega)]
    by_cases hc : ix p < (n + 1) / 2
    · rw [if_pos hc, if_pos (by omega)]
    · rw [if_neg hc, if_neg (by omega)]
  | f + 1, n + 1, .e p, h => by
    have e : ix (.e p) = 2 * ix p + 2 := rfl
    simp only [mkF, get?]
    rw [get_mkF f (n / 2) p (by omega)]
    by_cases hc : ix p < n / 2
    · rw [if_pos hc, if_pos (by omega)]
    · rw [if_neg hc, if_neg (by omega)]
theorem rep_mkT (n : Nat) : Rep (mkT n) (List.replicate n .undef) := by
  intro i
  rw [mkT, get_mkF n n _ (Nat.le_refl n), ix_pth, List.getElem?_replicate]

/-! reading and writing by raw recursors -/
def gLf : AV := .undef
def gZ (t : Tr) : AV := @Tr.casesOn (fun _ => AV) t gLf (fun v _ _ => v)
def gO (_ : Pa) (ih : Tr → AV) (t : Tr) : AV := @Tr.casesOn (fun _ => AV) t gLf (fun _ l _ => ih l)
def gE (_ : Pa) (ih : Tr → AV) (t : Tr) : AV := @Tr.casesOn (fun _ => AV) t gLf (fun _ _ r => ih r)
def getT (p : Pa) : Tr → AV := @Pa.rec (fun _ => Tr → AV) gZ gO gE p
theorem getT_eq : ∀ (p : Pa) (t : Tr), getT p t = (get? t p).getD .undef
  | .z, .lf => rfl
  | .z, .nd _ _ _ => rfl
  | .o p, .lf => by cases p <;> rfl
  | .o p, .nd _ l _ => getT_eq p l
  | .e p, .lf => by cases p <;> rfl
  | .e p, .nd _ _ r => getT_eq p r

/-- What a piece of code gives. -/
inductive SF where
  | go (t : Tr) (H : Heap)
  | pan (v : AV) (H : Heap)
  | trc (l : List (Tr × Heap)) (t : Tr) (H : Heap)
  | ext (id : Nat) (t : Tr) (H : Heap)
  | ret (t : Tr) (H : Heap)
  | res (v : AV) (H : Heap)
abbrev R := Option SF

def sLf (v : AV) (k : Tr → R) : R := k .lf
def sNd (_ : AV) (l r : Tr) (v : AV) (k : Tr → R) : R := k (.nd v l r)
def sZ (t : Tr) : AV → (Tr → R) → R := @Tr.casesOn (fun _ => AV → (Tr → R) → R) t sLf sNd
def kO (x : AV) (r : Tr) (k : Tr → R) (l : Tr) : R := k (.nd x l r)
def kE (x : AV) (l : Tr) (k : Tr → R) (r : Tr) : R := k (.nd x l r)
def sO1 (ih : Tr → AV → (Tr → R) → R) (x : AV) (l r : Tr) (v : AV) (k : Tr → R) : R := ih l v (kO x r k)
def sE1 (ih : Tr → AV → (Tr → R) → R) (x : AV) (l r : Tr) (v : AV) (k : Tr → R) : R := ih r v (kE x l k)
def sO (_ : Pa) (ih : Tr → AV → (Tr → R) → R) (t : Tr) : AV → (Tr → R) → R := @Tr.casesOn (fun _ => AV → (Tr → R) → R) t sLf (sO1 ih)
def sE (_ : Pa) (ih : Tr → AV → (Tr → R) → R) (t : Tr) : AV → (Tr → R) → R := @Tr.casesOn (fun _ => AV → (Tr → R) → R) t sLf (sE1 ih)
def setT (p : Pa) : Tr → AV → (Tr → R) → R := @Pa.rec (fun _ => Tr → AV → (Tr → R) → R) sZ sO sE p
theorem setT_eq : ∀ (p : Pa) (t : Tr) (v : AV) (k : Tr → R), setT p t v k = k (setS t p v)
  | .z, .lf, v, k => rfl
  | .z, .nd _ _ _, v, k => rfl
  | .o p, .lf, v, k => rfl
  | .o p, .nd x l r, v, k => by
    show setT p l v (kO x r k) = _
    rw [setT_eq p l]; rfl
  | .e p, .lf, v, k => rfl
  | .e p, .nd x l r, v, k => by
    show setT p r v (kE x l k) = _
    rw [setT_eq p r]; rfl

/-- The slots as a function. -/
def rdr (t : Tr) (n : Nat) : AV := getT (pth n) t
theorem rdr_eq {t : Tr} {tm : List AV} (h : Rep t tm) : rdr t = fun i => tm.getD i .undef := by
  funext i
  rw [rdr, getT_eq, h i, List.getD_eq_getElem?_getD]
end
end Go.Ab.F

/- The abstract machine for the kernel: operations over a reader of slots. -/
namespace Go.Ab.F
set_option linter.unusedVariables false
noncomputable section
abbrev Rd := Nat → AV
def eT (t : Nat) (g : Rd) : Option AV := some (g t)
def eC (v : Value) (_ : Rd) : Option AV := ofVal v
def eG (_ : Nat) (_ : Rd) : Option AV := none
def eF (f : FuncId) (_ : Rd) : Option AV := some (.fn f [])
def evF (g : Rd) (x : Operand) : Option AV := @Operand.rec (fun _ => Rd → Option AV) eT eC eG eF x g
def evsF (g : Rd) (xs : List Operand) : Option (List AV) := mapO (evF g) xs
def evPartsF (g : Rd) (xs : List (Nat × Operand)) : Option (List (Nat × AV)) := mapO (fun (i, x) => (evF g x).map (i, ·)) xs
def evOF (g : Rd) : Option Operand → Option (Option AV)
  | none => some none
  | some x => (evF g x).map some
/-- The slots of a list. -/
def rl (tm : List AV) : Rd := fun i => tm.getD i .undef
theorem ev_rl (tm : List AV) : ev tm = evF (rl tm) := by
  funext x; cases x <;> rfl
section
variable (P : Program)
def opE (op : Op) (g : Rd) (H : Heap) : Option OR :=
  match op with
  | .move x | .assign x => pureR H (evF g x)
  | .pick c a b => match evF g c with
    | some (.bool true) => pureR H (evF g a)
    | some (.bool false) => pureR H (evF g b)
    | _ => none
  | .alloc t => match tzero P t with
    | some z => if z.cells.all AV.isCell = true then some (.val (.ptr H.n 0) (H.push (.row true t z.cells))) else none
    | none => none
  | .box t x => match evF g x with
    | some v => if v.cells.all AV.isCell = true then some (.val (.ptr H.n 0) (H.push (.row true t v.cells))) else none
    | none => none
  | .build t parts => match evPartsF g parts.toList with
    | some ps => pureR H (buildA P t ps)
    | none => none
  | .buildSlice t len parts => match evPartsF g parts.toList with
    | some ps => bothR (buildSliceA P H t len ps)
    | none => none
  | .load t a => match evF g a with
    | some a => pureR H (loadA P H t a)
    | none => none
  | .store t a x => match evF g a, evF g x with
    | some a, some x => heapR (storeA P H t a x)
    | _, _ => none
  | .nilCheck x => match evF g x with
    | some (.ptr id off) => some (.val (.ptr id off) H)
    | some (.eptr t cs off) => some (.val (.eptr t cs off) H)
    | some (.fn f cap) => some (.val (.fn f cap) H)
    | _ => none
  | .binOp op t x y _ => match evF g x, evF g y with
    | some a, some b => pureR H (binA P op t x y a b)
    | _, _ => none
  | .unOp op _ x => match evF g x with
    | some a => pureR H (unA op a)
    | none => none
  | .convert src dst x => match evF g x with
    | some a => bothR (convA P H src dst a)
    | none => none
  | .makeInterface t x => match evF g x, P.underlying t with
    | some _, some (.interface _) => none
    | some v, some _ => some (.val (.ifc t v) H)
    | _, _ => none
  | .makeFunc (.func f) first captured => if first.size = 0 then
      match evsF g captured.toList with
      | some vs => some (.val (.fn f vs) H)
      | none => none
    else none
  | .makeMap _ none => some (.val (.map H.n) (H.push (.map [])))
  | .makeMap t (some x) => match evF g x, P.underlying t with
    | some (.int _ _), some (.map _ _) => some (.val (.map H.n) (H.push (.map [])))
    | _, _ => none
  | .makeSlice t l c => match evF g l, evF g c with
    | some l, some c => bothR (makeSliceA P H t l c)
    | _, _ => none
  | .slice t x lo hi none => match P.underlying t, evF g x, evOF g lo, evOF g hi with
    | some .string, some (.str s), some lo, some hi => pureR H (sliceStrA s lo hi)
    | some (.slice elem), some x, some lo, some hi => match tsz P elem with
      | some e => pureR H (sliceA e x lo hi)
      | none => none
    | some (.array n elem), some (.ptr id off), some lo, some hi => match tsz P elem, H.get id with
      | some e, .row _ _ cs => if off + n * e ≤ cs.length then pureR H (sliceA e (.sl id off n e) lo hi) else none
      | _, _ => none
    | _, _, _, _ => none
  | .fieldAddr s x f => match evF g x with
    | some a => pureR H (fieldAddrA P s a f)
    | none => none
  | .field t x f => match evF g x with
    | some a => pureR H (fieldA P t a f)
    | none => none
  | .indexAddr t x i => match evF g x, evF g i with
    | some a, some b => pureR H (indexAddrA P t a b)
    | _, _ => none
  | .index t x i => match evF g x, evF g i with
    | some a, some b => pureR H (indexA P t a b)
    | _, _ => none
  | .lookup t x i ok => match evF g x, evF g i with
    | some a, some b => pureR H (lookupA P H t a b ok)
    | _, _ => none
  | .mapUpdate t m k x | .insert t m k x => match evF g m, evF g k, evF g x with
    | some m, some k, some x => heapR (mapUpdateA P H t m k x)
    | _, _, _ => none
  | .typeAssert x _ asserted ok => match evF g x with
    | some a => pureR H (assertA P a asserted ok)
    | none => none
  | .extract x i => match evF g x with
    | some (.tup vs) => match vs[i]? with
      | some v => some (.val v H)
      | none => none
    | _ => none
  | .call c => match evsF g c.args.toList with
    | some args => match c.callee with
      | .builtin b => builtinA P H b c.argTypes args
      | .value f => match evF g f with
        | some (.fn f cap) => some (.call f (args ++ cap))
        | _ => none
      | .invoke _ _ => none
    | none => none
  | .panic x => match evF g x with
    | some (.ifc t v) => some (.pan (.ifc t v))
    | _ => none
  | _ => none

theorem opE_eq (o : Oper) (tm : List AV) (H : Heap) : opE P o.op (rl tm) H = opA P o tm H := by
  unfold opE opA
  simp only [evs, evParts, evsF, evPartsF, ev_rl]
  have h : ∀ x, evO tm x = evOF (rl tm) x := fun x => by cases x <;> simp [evO, evOF, ev_rl]
  simp only [h]
  rfl
end
end
end Go.Ab.F

/- The abstract machine for the kernel: forced values, cheap numbers, strings, heaps. -/
namespace Go.Ab.F
set_option linter.unusedVariables false
noncomputable section

/-! forced values -/
abbrev VK := AV → R
def fNat0 (c : Nat → R) : R := c 0
def fNatS (m : Nat) (_ : (Nat → R) → R) (c : Nat → R) : R := c (Nat.succ m)
def fNat (n : Nat) : (Nat → R) → R := @Nat.rec (fun _ => (Nat → R) → R) fNat0 fNatS n
theorem fNat_eq (n : Nat) (c : Nat → R) : fNat n c = c n := by cases n <;> rfl
def posK (k : IntKind) (c : VK) (m : Nat) : R := c (.int k (.ofNat m))
def negK (k : IntKind) (c : VK) (m : Nat) : R := c (.int k (.negSucc m))
def fPos (m : Nat) (k : IntKind) (c : VK) : R := fNat m (posK k c)
def fNeg (m : Nat) (k : IntKind) (c : VK) : R := fNat m (negK k c)
def fInt (n : Int) : IntKind → VK → R := @Int.rec (fun _ => IntKind → VK → R) fPos fNeg n
theorem fInt_eq (n : Int) (k : IntKind) (c : VK) : fInt n k c = c (.int k n) := by
  cases n with
  | ofNat m => exact fNat_eq m _
  | negSucc m => exact fNat_eq m _
def bT (c : VK) : R := c (.bool true)
def bF (c : VK) : R := c (.bool false)
def fBool (b : Bool) : VK → R := @Bool.rec (fun _ => VK → R) bF bT b
theorem fBool_eq (b : Bool) (c : VK) : fBool b c = c (.bool b) := by cases b <;> rfl
/-- A list with its spine in sight. -/
def lNil {α : Type} (c : List α → R) : R := c []
def lCons1 {α : Type} (x : α) (c : List α → R) (xs : List α) : R := c (x :: xs)
def lCons {α : Type} (x : α) (_ : List α) (ih : (List α → R) → R) (c : List α → R) : R := ih (lCons1 x c)
def fList {α : Type} (l : List α) : (List α → R) → R := @List.rec α (fun _ => (List α → R) → R) lNil lCons l
theorem fList_eq {α : Type} : ∀ (l : List α) (c : List α → R), fList l c = c l
  | [], _ => rfl
  | x :: l, c => by
    show fList l (lCons1 x c) = _
    rw [fList_eq l]; rfl
def p5 (c : VK) (a b : Nat) : R := c (.ptr a b)
def p5a (b : Nat) (c : VK) (a : Nat) : R := fNat b (p5 c a)
def p8c (c : VK) (a b d e : Nat) : R := c (.sl a b d e)
def p8b (e : Nat) (c : VK) (a b d : Nat) : R := fNat e (p8c c a b d)
def p8a (d e : Nat) (c : VK) (a b : Nat) : R := fNat d (p8b e c a b)
def p8 (b d e : Nat) (c : VK) (a : Nat) : R := fNat b (p8a d e c a)
def v1 (c : VK) : R := c .undef
def v3 (k : IntKind) (n : Int) (c : VK) : R := fInt n k c
def v4 (s : List UInt8) (c : VK) : R := c (.str s)
def v5 (a b : Nat) (c : VK) : R := fNat a (p5a b c)
def v6 (a : Bool) (b : List AV) (d : Nat) (c : VK) : R := c (.eptr a b d)
def v7 (c : VK) : R := c .nilp
def v8 (a b d e : Nat) (c : VK) : R := fNat a (p8 b d e c)
def v9 (a : Bool) (b : List (List AV)) (c : VK) : R := c (.isl a b)
def v10 (c : VK) : R := c .nils
def v11 (a : Nat) (c : VK) : R := c (.map a)
def v12 (c : VK) : R := c .nilm
def v13 (f : FuncId) (b : List AV) (c : VK) : R := c (.fn f b)
def v14 (c : VK) : R := c .nilf
def v15 (t : TypeId) (v : AV) (c : VK) : R := c (.ifc t v)
def v16 (c : VK) : R := c .nili
def v17a (c : VK) (a : List AV) : R := c (.agg a)
def v17 (a : List AV) (c : VK) : R := fList a (v17a c)
def v18a (c : VK) (a : List AV) : R := c (.tup a)
def v18 (a : List AV) (c : VK) : R := fList a (v18a c)
def fAV (v : AV) : VK → R := @AV.casesOn (fun _ => VK → R) v v1 fBool v3 v4 v5 v6 v7 v8 v9 v10 v11 v12 v13 v14 v15 v16 v17 v18
theorem fAV_eq (v : AV) (c : VK) : fAV v c = c v := by
  cases v with
  | bool b => exact fBool_eq b c
  | int k n => exact fInt_eq n k c
  | ptr a b => exact (fNat_eq a _).trans (fNat_eq b _)
  | sl a b d e => exact (fNat_eq a _).trans ((fNat_eq b _).trans ((fNat_eq d _).trans (fNat_eq e _)))
  | agg a => exact fList_eq a _
  | tup a => exact fList_eq a _
  | _ => rfl

/-! one case of a value -/
section
variable {α : Type}
def caseInt (d : α) (f : IntKind → Int → α) (y : AV) : α :=
  @AV.casesOn (fun _ => α) y d (fun _ => d) f (fun _ => d) (fun _ _ => d) (fun _ _ _ => d) d (fun _ _ _ _ => d) (fun _ _ => d) d (fun _ => d) d (fun _ _ => d) d (fun _ _ => d) d (fun _ => d) (fun _ => d)
def caseStr (d : α) (f : List UInt8 → α) (y : AV) : α :=
  @AV.casesOn (fun _ => α) y d (fun _ => d) (fun _ _ => d) f (fun _ _ => d) (fun _ _ _ => d) d (fun _ _ _ _ => d) (fun _ _ => d) d (fun _ => d) d (fun _ _ => d) d (fun _ _ => d) d (fun _ => d) (fun _ => d)
def casePtr (d : α) (f : Nat → Nat → α) (y : AV) : α :=
  @AV.casesOn (fun _ => α) y d (fun _ => d) (fun _ _ => d) (fun _ => d) f (fun _ _ _ => d) d (fun _ _ _ _ => d) (fun _ _ => d) d (fun _ => d) d (fun _ _ => d) d (fun _ _ => d) d (fun _ => d) (fun _ => d)
def caseBool (d : α) (f : Bool → α) (y : AV) : α :=
  @AV.casesOn (fun _ => α) y d f (fun _ _ => d) (fun _ => d) (fun _ _ => d) (fun _ _ _ => d) d (fun _ _ _ _ => d) (fun _ _ => d) d (fun _ => d) d (fun _ _ => d) d (fun _ _ => d) d (fun _ => d) (fun _ => d)
def caseAgg (d : α) (f : List AV → α) (y : AV) : α :=
  @AV.casesOn (fun _ => α) y d (fun _ => d) (fun _ _ => d) (fun _ => d) (fun _ _ => d) (fun _ _ _ => d) d (fun _ _ _ _ => d) (fun _ _ => d) d (fun _ => d) d (fun _ _ => d) d (fun _ _ => d) d f (fun _ => d)
def caseTup (d : α) (f : List AV → α) (y : AV) : α :=
  @AV.casesOn (fun _ => α) y d (fun _ => d) (fun _ _ => d) (fun _ => d) (fun _ _ => d) (fun _ _ _ => d) d (fun _ _ _ _ => d) (fun _ _ => d) d (fun _ => d) d (fun _ _ => d) d (fun _ _ => d) d (fun _ => d) f
def caseSl (d : α) (f : Nat → Nat → Nat → Nat → α) (y : AV) : α :=
  @AV.casesOn (fun _ => α) y d (fun _ => d) (fun _ _ => d) (fun _ => d) (fun _ _ => d) (fun _ _ _ => d) d f (fun _ _ => d) d (fun _ => d) d (fun _ _ => d) d (fun _ _ => d) d (fun _ => d) (fun _ => d)
def caseFn (d : α) (f : FuncId → List AV → α) (y : AV) : α :=
  @AV.casesOn (fun _ => α) y d (fun _ => d) (fun _ _ => d) (fun _ => d) (fun _ _ => d) (fun _ _ _ => d) d (fun _ _ _ _ => d) (fun _ _ => d) d (fun _ => d) d f d (fun _ _ => d) d (fun _ => d) (fun _ => d)
end

/-! numbers -/
def kn (k : IntKind) : Nat := @IntKind.casesOn (fun _ => Nat) k 0 1 2 3 4 5 6 7
def kEq (k k' : IntKind) : Bool := Nat.beq (kn k) (kn k')
theorem kEq_true {k k' : IntKind} (h : kEq k k' = true) : k = k' := by
  cases k <;> cases k' <;> first | rfl | (exact absurd h (by decide))
theorem kEq_false {k k' : IntKind} (h : kEq k k' = false) : k ≠ k' := by
  rintro rfl; revert h; cases k <;> decide
def lim (k : IntKind) : Nat := @IntKind.casesOn (fun _ => Nat) k 127 32767 2147483647 9223372036854775807 255 65535 4294967295 18446744073709551615
def wPos (m : Nat) (k : IntKind) : Int := @Bool.rec (fun _ => Int) (k.wrap (.ofNat m)) (.ofNat m) (Nat.ble m (lim k))
def wNeg (m : Nat) (k : IntKind) : Int := k.wrap (.negSucc m)
def wrapF (k : IntKind) (n : Int) : Int := @Int.rec (fun _ => IntKind → Int) wPos wNeg n k
theorem wrapF_eq (k : IntKind) (n : Int) : wrapF k n = k.wrap n := by
  cases n with
  | negSucc m => rfl
  | ofNat m =>
    show wPos m k = _
    unfold wPos
    cases h : Nat.ble m (lim k) with
    | false => rfl
    | true =>
      have h := Nat.le_of_ble_eq_true h
      dsimp only
      cases k <;> simp [IntKind.wrap, IntKind.bits, IntKind.signed, lim] at h ⊢ <;> (try split) <;> omega
def nF (_ : Nat) : Bool := false
def nT (_ : Nat) : Bool := true
def eqP (m : Nat) (y : Int) : Bool := @Int.rec (fun _ => Bool) (Nat.beq m) nF y
def eqN (m : Nat) (y : Int) : Bool := @Int.rec (fun _ => Bool) nF (Nat.beq m) y
def eqI (x : Int) : Int → Bool := @Int.rec (fun _ => Int → Bool) eqP eqN x
def ltP (m : Nat) (y : Int) : Bool := @Int.rec (fun _ => Bool) (Nat.ble (Nat.succ m)) nF y
def ltN1 (m n : Nat) : Bool := Nat.ble (Nat.succ n) m
def ltN (m : Nat) (y : Int) : Bool := @Int.rec (fun _ => Bool) nT (ltN1 m) y
def ltI (x : Int) : Int → Bool := @Int.rec (fun _ => Int → Bool) ltP ltN x
theorem eqI_eq (x y : Int) : eqI x y = (x == y) := by
  cases x <;> cases y
  · rename_i a b
    show Nat.beq a b = _
    rw [Bool.eq_iff_iff]; simp [Nat.beq_eq]; omega
  · rename_i a b
    show false = _
    symm; rw [beq_eq_false_iff_ne]; exact fun h => nomatch h
  · rename_i a b
    show false = _
    symm; rw [beq_eq_false_iff_ne]; exact fun h => nomatch h
  · rename_i a b
    show Nat.beq a b = _
    rw [Bool.eq_iff_iff]; simp [Nat.beq_eq]
theorem ltI_eq (x y : Int) : ltI x y = decide (x < y) := by
  cases x <;> cases y
  · rename_i a b
    show Nat.ble (a + 1) b = _
    rw [Bool.eq_iff_iff]; simp [Nat.ble_eq]; omega
  · rename_i a b
    show false = _
    symm; simp; omega
  · rename_i a b
    show true = _
    symm; simp; omega
  · rename_i a b
    show Nat.ble (b + 1) a = _
    rw [Bool.eq_iff_iff]; simp [Nat.ble_eq]; omega

/-! strings -/
def u8 (b : UInt8) : Nat := b.toBitVec.toFin.val
def sbNil (y : List UInt8) : Bool := @List.casesOn UInt8 (fun _ => Bool) y true (fun _ _ => false)
def sbC2 (x : UInt8) (ih : List UInt8 → Bool) (b : UInt8) (ys : List UInt8) : Bool := @Bool.rec (fun _ => List UInt8 → Bool) (fun _ => false) ih (Nat.beq (u8 x) (u8 b)) ys
def sbCons (x : UInt8) (_ : List UInt8) (ih : List UInt8 → Bool) (y : List UInt8) : Bool := @List.casesOn UInt8 (fun _ => Bool) y false (sbC2 x ih)
def eqB (x : List UInt8) : List UInt8 → Bool := @List.rec UInt8 (fun _ => List UInt8 → Bool) sbNil sbCons x
theorem u8_inj {a b : UInt8} (h : u8 a = u8 b) : a = b := by
  apply UInt8.toNat_inj.mp
  exact h
theorem eqB_eq : ∀ x y, eqB x y = (x == y)
  | [], [] => rfl
  | [], _ :: _ => rfl
  | _ :: _, [] => rfl
  | a :: x, b :: y => by
    show @Bool.rec (fun _ => List UInt8 → Bool) (fun _ => false) (eqB x) (Nat.beq (u8 a) (u8 b)) y = _
    have e : ((a :: x) == (b :: y)) = (a == b && x == y) := rfl
    rw [e]
    cases h : Nat.beq (u8 a) (u8 b) with
    | true =>
      have := u8_inj (Nat.eq_of_beq_eq_true h)
      subst this
      simp only [beq_self_eq_true, Bool.true_and]
      exact eqB_eq x y
    | false =>
      have : a ≠ b := fun e => by subst e; exact absurd (Nat.ne_of_beq_eq_false h) (fun c => c rfl)
      rw [beq_eq_false_iff_ne.mpr this]; rfl
def lenZ (n : Nat) : Nat := n
def lenS {α : Type} (_ : α) (_ : List α) (ih : Nat → Nat) (n : Nat) : Nat := ih (Nat.succ n)
def lenF {α : Type} (l : List α) : Nat → Nat := @List.rec α (fun _ => Nat → Nat) lenZ lenS l
theorem lenF_eq {α : Type} : ∀ (l : List α) (n : Nat), lenF l n = n + l.length
  | [], n => rfl
  | x :: l, n => by
    show lenF l (n + 1) = _
    rw [lenF_eq l]; simp only [List.length_cons]; omega

/-! rows -/
section
variable {α β : Type}
def nthZ (_ : α → β) (d : β) (_ : Nat) : β := d
def nthS (f : α → β) (x : α) (_ : List α) (ih : Nat → β) (n : Nat) : β := @Nat.rec (fun _ => β) (f x) (fun m _ => ih m) n
/-- f of the n-th, or d. -/
def nth (f : α → β) (d : β) (l : List α) : Nat → β := @List.rec α (fun _ => Nat → β) (fun _ => d) (nthS f) l
theorem nth_eq (f : α → β) (d : β) : ∀ (l : List α) (n : Nat), nth f d l n = match l[n]? with | some x => f x | none => d
  | [], n => rfl
  | x :: l, 0 => rfl
  | x :: l, n + 1 => by
    show nth f d l n = _
    rw [nth_eq f d l n]; rfl
def stZ (v : α) (n : Nat) (k : List α → R) : R := k []
def stK (x : α) (k : List α → R) (ys : List α) : R := k (x :: ys)
def stS (v : α) (x : α) (xs : List α) (ih : Nat → (List α → R) → R) (n : Nat) : (List α → R) → R :=
  @Nat.rec (fun _ => (List α → R) → R) (fun k => k (v :: xs)) (fun m _ k => ih m (stK x k)) n
/-- A list with its n-th set. -/
def st (v : α) (l : List α) : Nat → (List α → R) → R := @List.rec α (fun _ => Nat → (List α → R) → R) (stZ v) (stS v) l
theorem st_eq (v : α) : ∀ (l : List α) (n : Nat) (k : List α → R), st v l n k = k (l.set n v)
  | [], n, k => rfl
  | x :: l, 0, k => rfl
  | x :: l, n + 1, k => by
    show st v l n (stK x k) = _
    rw [st_eq v l n]; rfl
end

/-! heaps -/
def hg1 (n : Nat) (l : List Ob) (id : Nat) (k : Ob → R) : R := @Bool.rec (fun _ => R) (k .dead) (nth k (k .dead) l (Nat.sub (Nat.sub n 1) id)) (Nat.ble (Nat.succ id) n)
def hget (H : Heap) : Nat → (Ob → R) → R := @Heap.rec (fun _ => Nat → (Ob → R) → R) hg1 H
theorem hget_eq (H : Heap) (id : Nat) (k : Ob → R) : hget H id k = k (H.get id) := by
  obtain ⟨n, l⟩ := H
  show hg1 n l id k = _
  unfold hg1 Heap.get
  cases h : Nat.ble (Nat.succ id) n with
  | false =>
    have : ¬ id < n := fun c => by rw [Nat.ble_eq_true_of_le c] at h; exact absurd h (by decide)
    simp only [this, if_false]
  | true =>
    have : id < n := Nat.le_of_ble_eq_true h
    simp only [this, if_true]
    rw [nth_eq, List.getD_eq_getElem?_getD, show Nat.sub (Nat.sub n 1) id = n - 1 - id from rfl]
    cases l[n - 1 - id]? <;> rfl
def hs2 (n : Nat) (k : Heap → R) (l : List Ob) : R := k ⟨n, l⟩
def hs1 (n : Nat) (l : List Ob) (id : Nat) (o : Ob) (k : Heap → R) : R := st o l (Nat.sub (Nat.sub n 1) id) (hs2 n k)
def hset (H : Heap) : Nat → Ob → (Heap → R) → R := @Heap.rec (fun _ => Nat → Ob → (Heap → R) → R) hs1 H
theorem hset_eq (H : Heap) (id : Nat) (o : Ob) (k : Heap → R) : hset H id o k = k (H.set id o) := by
  obtain ⟨n, l⟩ := H
  exact st_eq o l _ _
/-- The heap's number and its newest block in sight. -/
def fo1 (n : Nat) (l : List Ob) (bx : Bool) (e : TypeId) (k : Heap → R) (cs : List AV) : R := k ⟨n, .row bx e cs :: l⟩
def foD (n : Nat) (l : List Ob) (k : Heap → R) : R := k ⟨n, .dead :: l⟩
def foR (bx : Bool) (e : TypeId) (cs : List AV) (n : Nat) (l : List Ob) (k : Heap → R) : R := fList cs (fo1 n l bx e k)
def foM (es : List (AV × AV)) (n : Nat) (l : List Ob) (k : Heap → R) : R := k ⟨n, .map es :: l⟩
def fOb (o : Ob) : Nat → List Ob → (Heap → R) → R := @Ob.casesOn (fun _ => Nat → List Ob → (Heap → R) → R) o foD foR foM
def fh0 (k : Heap → R) (n : Nat) : R := k ⟨n, []⟩
def fh1 (o : Ob) (l : List Ob) (k : Heap → R) (n : Nat) : R := fOb o n l k
def fhN (n : Nat) (k : Heap → R) : R := fNat n (fh0 k)
def fhC (o : Ob) (l : List Ob) (n : Nat) (k : Heap → R) : R := fNat n (fh1 o l k)
def fhL (n : Nat) (l : List Ob) : (Heap → R) → R := @List.casesOn Ob (fun _ => Nat → (Heap → R) → R) l fhN fhC n
def fHeap (H : Heap) : (Heap → R) → R := @Heap.rec (fun _ => (Heap → R) → R) fhL H
theorem fHeap_eq (H : Heap) (k : Heap → R) : fHeap H k = k H := by
  obtain ⟨n, l⟩ := H
  cases l with
  | nil => exact fNat_eq n _
  | cons o l =>
    refine (fNat_eq n _).trans ?_
    show fOb o n l k = _
    cases o with
    | row bx e cs => exact fList_eq cs _
    | _ => rfl
end
end Go.Ab.F

/- The abstract machine for the kernel: operations with continuations. -/
namespace Go.Ab.F
set_option linter.unusedVariables false
noncomputable section
abbrev KV := AV → Heap → R
abbrev KC := FuncId → List AV → R

/-- What an operation gives goes on. -/
def dg (r : Option OR) (H : Heap) (kv : KV) (kc : KC) : R :=
  match r with
  | some (.val v H') => kv v H'
  | some (.pan v) => some (.pan v H)
  | some (.call f a) => kc f a
  | none => none
def sw (kv : KV) (H : Heap) (v : AV) : R := kv v H
def dVal (kv : KV) (v : AV) (H' : Heap) : R := fAV v (sw kv H')
def dOR (H : Heap) (kv : KV) (kc : KC) (r : OR) : R := @OR.casesOn (fun _ => R) r (dVal kv) (fun v => some (.pan v H)) kc
def dgP (r : Option OR) (H : Heap) (kv : KV) (kc : KC) : R := @Option.rec OR (fun _ => R) none (dOR H kv kc) r
theorem dgP_eq (r : Option OR) (H : Heap) (kv : KV) (kc : KC) : dgP r H kv kc = dg r H kv kc := by
  cases r with
  | none => rfl
  | some r => cases r with
    | val v H' => exact fAV_eq v _
    | _ => rfl
def hkv (kv : KV) (v : AV) (H : Heap) : R := fHeap H (kv v)
def dgF (r : Option OR) (H : Heap) (kv : KV) (kc : KC) : R := dgP r H (hkv kv) kc
theorem dgF_eq (r : Option OR) (H : Heap) (kv : KV) (kc : KC) : dgF r H kv kc = dg r H kv kc := by
  rw [dgF, dgP_eq]
  cases r with
  | none => rfl
  | some r => cases r with
    | val v H' => exact fHeap_eq H' _
    | _ => rfl

/-! operands -/
def kZ (t : Tr) : VK → R := @Tr.casesOn (fun _ => VK → R) t (fun k => k .undef) (fun v _ _ k => k v)
def kO' (_ : Pa) (ih : Tr → VK → R) (t : Tr) : VK → R := @Tr.casesOn (fun _ => VK → R) t (fun k => k .undef) (fun _ l _ => ih l)
def kE' (_ : Pa) (ih : Tr → VK → R) (t : Tr) : VK → R := @Tr.casesOn (fun _ => VK → R) t (fun k => k .undef) (fun _ _ r => ih r)
def getK (p : Pa) : Tr → VK → R := @Pa.rec (fun _ => Tr → VK → R) kZ kO' kE' p
theorem getK_eq : ∀ (p : Pa) (t : Tr) (k : VK), getK p t k = k (getT p t)
  | .z, .lf, _ => rfl
  | .z, .nd _ _ _, _ => rfl
  | .o p, .lf, _ => rfl
  | .o p, .nd _ l _, k => getK_eq p l k
  | .e p, .lf, _ => rfl
  | .e p, .nd _ _ r, k => getK_eq p r k
def eKT (n : Nat) (t : Tr) (k : VK) : R := getK (pth n) t k
def eKC (v : Value) (_ : Tr) (k : VK) : R := @Option.rec AV (fun _ => R) none (fun v => fAV v k) (ofVal v)
def eKG (_ : Nat) (_ : Tr) (_ : VK) : R := none
def eKF (f : FuncId) (_ : Tr) (k : VK) : R := k (.fn f [])
def evK (x : Operand) : Tr → VK → R := @Operand.rec (fun _ => Tr → VK → R) eKT eKC eKG eKF x
theorem evK_eq (x : Operand) (t : Tr) (k : VK) : evK x t k = match evF (rdr t) x with | some v => k v | none => none := by
  cases x with
  | tmp n => exact getK_eq _ _ _
  | const v =>
    show @Option.rec AV (fun _ => R) none (fun v => fAV v k) (ofVal v) = match ofVal v with | some v => k v | none => none
    cases ofVal v with
    | none => rfl
    | some v => exact fAV_eq v k
  | _ => rfl
def aN (t : Tr) (k : List AV → R) : R := k []
def aC2 (v : AV) (k : List AV → R) (vs : List AV) : R := k (v :: vs)
def aC1 (ih : Tr → (List AV → R) → R) (t : Tr) (k : List AV → R) (v : AV) : R := ih t (aC2 v k)
def aC (x : Operand) (_ : List Operand) (ih : Tr → (List AV → R) → R) (t : Tr) (k : List AV → R) : R := evK x t (aC1 ih t k)
def argsK (l : List Operand) : Tr → (List AV → R) → R := @List.rec Operand (fun _ => Tr → (List AV → R) → R) aN aC l
theorem argsK_eq : ∀ (l : List Operand) (t : Tr) (k : List AV → R), argsK l t k = match evsF (rdr t) l with | some vs => k vs | none => none
  | [], t, k => rfl
  | x :: l, t, k => by
    show evK x t (aC1 (argsK l) t k) = _
    rw [evK_eq]
    simp only [evsF, mapO]
    cases evF (rdr t) x with
    | none => rfl
    | some v =>
      show argsK l t (aC2 v k) = _
      rw [argsK_eq l]
      simp only [evsF]
      cases mapO (evF (rdr t)) l <;> rfl
def qN (t : Tr) (k : List (Nat × AV) → R) : R := k []
def qC2 (i : Nat) (v : AV) (k : List (Nat × AV) → R) (vs : List (Nat × AV)) : R := k ((i, v) :: vs)
def qC1 (i : Nat) (ih : Tr → (List (Nat × AV) → R) → R) (t : Tr) (k : List (Nat × AV) → R) (v : AV) : R := ih t (qC2 i v k)
def qC0 (i : Nat) (x : Operand) (ih : Tr → (List (Nat × AV) → R) → R) (t : Tr) (k : List (Nat × AV) → R) : R := evK x t (qC1 i ih t k)
def qC (x : Nat × Operand) (_ : List (Nat × Operand)) : (Tr → (List (Nat × AV) → R) → R) → Tr → (List (Nat × AV) → R) → R := @Prod.rec Nat Operand (fun _ => (Tr → (List (Nat × AV) → R) → R) → Tr → (List (Nat × AV) → R) → R) qC0 x
def partsK (l : List (Nat × Operand)) : Tr → (List (Nat × AV) → R) → R := @List.rec (Nat × Operand) (fun _ => Tr → (List (Nat × AV) → R) → R) qN qC l
theorem partsK_eq : ∀ (l : List (Nat × Operand)) (t : Tr) (k : List (Nat × AV) → R), partsK l t k = match evPartsF (rdr t) l with | some vs => k vs | none => none
  | [], t, k => rfl
  | (i, x) :: l, t, k => by
    show evK x t (qC1 i (partsK l) t k) = _
    rw [evK_eq]
    simp only [evPartsF, mapO]
    cases evF (rdr t) x with
    | none => rfl
    | some v =>
      show partsK l t (qC2 i v k) = _
      rw [partsK_eq l]
      simp only [evPartsF, Option.map_some]
      cases mapO (fun x : Nat × Operand => (evF (rdr t) x.2).map (x.1, ·)) l <;> rfl

section
variable (P : Program)
def gen (op : Op) (t : Tr) (H : Heap) (kv : KV) (kc : KC) : R := dgP (opE P op (rdr t) H) H kv kc
def genH (op : Op) (t : Tr) (H : Heap) (kv : KV) (kc : KC) : R := dgF (opE P op (rdr t) H) H kv kc

/-! moves -/
def xMove (x : Operand) (t : Tr) (H : Heap) (kv : KV) (kc : KC) : R := evK x t (sw kv H)
def xPick2 (a b : Operand) (t : Tr) (H : Heap) (kv : KV) (c : Bool) : R := @Bool.rec (fun _ => R) (evK b t (sw kv H)) (evK a t (sw kv H)) c
def xPick (c a b : Operand) (t : Tr) (H : Heap) (kv : KV) (kc : KC) : R := evK c t (caseBool none (xPick2 a b t H kv))
theorem xMove_eq (x : Operand) (t : Tr) (H : Heap) (kv : KV) (kc : KC) : xMove x t H kv kc = dg (pureR H (evF (rdr t) x)) H kv kc := by
  rw [xMove, evK_eq]
  cases evF (rdr t) x <;> rfl
theorem xPick_eq (c a b : Operand) (t : Tr) (H : Heap) (kv : KV) (kc : KC) : xPick c a b t H kv kc = dg (opE P (.pick c a b) (rdr t) H) H kv kc := by
  rw [xPick, evK_eq]
  show _ = dg (match evF (rdr t) c with
    | some (.bool true) => pureR H (evF (rdr t) a)
    | some (.bool false) => pureR H (evF (rdr t) b)
    | _ => none) H kv kc
  cases evF (rdr t) c with
  | none => rfl
  | some v =>
    cases v with
    | bool c => cases c with
      | true => exact xMove_eq a t H kv kc
      | false => exact xMove_eq b t H kv kc
    | _ => rfl

/-! loads and stores -/
def ldC (H : Heap) (kv : KV) (v : AV) : R := fAV v (sw kv H)
def ldO (off : Nat) (H : Heap) (kv : KV) (o : Ob) : R := @Ob.casesOn (fun _ => R) o none (fun _ _ cs => nth (ldC H kv) none cs off) (fun _ => none)
def ldP (id off : Nat) (H : Heap) (kv : KV) : R := hget H id (ldO off H kv)
def ldE (_ : Bool) (cs : List AV) (off : Nat) (H : Heap) (kv : KV) : R := nth (ldC H kv) none cs off
def n1 {α : Type} (_ : α) (H : Heap) (kv : KV) : R := none
def n2 {α β : Type} (_ : α) (_ : β) (H : Heap) (kv : KV) : R := none
def n4 {α β γ δ : Type} (_ : α) (_ : β) (_ : γ) (_ : δ) (H : Heap) (kv : KV) : R := none
def n0 (H : Heap) (kv : KV) : R := none
def ld1 (a : AV) : Heap → KV → R := @AV.casesOn (fun _ => Heap → KV → R) a n0 n1 n2 n1 ldP ldE n0 n4 n2 n0 n1 n0 n2 n0 n2 n0 n1 n1
def ldN2 (H : Heap) (kv : KV) (v : AV) : R := fAV v (sw kv H)
def ldN (ty : TypeId) (H : Heap) (kv : KV) (a : AV) : R := @Option.rec AV (fun _ => R) none (ldN2 H kv) (loadA P H ty a)
def ldB (ty : TypeId) (H : Heap) (kv : KV) (a : AV) (b : Bool) : R := @Bool.rec (fun _ => R) (ld1 a H kv) (ldN P ty H kv a) b
def ldK (ty : TypeId) (H : Heap) (kv : KV) (a : AV) : R := @Option.rec Bool (fun _ => R) none (ldB P ty H kv a) (tagg P ty)
def xLoad (ty : TypeId) (a : Operand) (t : Tr) (H : Heap) (kv : KV) (kc : KC) : R := evK a t (ldK P ty H kv)
theorem take1 (cs : List AV) (off : Nat) : (match (if ((cs.drop off).take 1).length = 1 then some ((cs.drop off).take 1) else none) with | some [v] => some v | _ => none) = cs[off]? := by
  have h : (cs.drop off).take 1 = match cs[off]? with | some v => [v] | none => [] := by
    by_cases hl : off < cs.length
    · rw [List.drop_eq_getElem_cons hl, List.getElem?_eq_getElem hl]; rfl
    · rw [List.drop_eq_nil_of_le (by omega), List.getElem?_eq_none (by omega)]; rfl
  rw [h]
  cases cs[off]? <;> rfl
theorem nth_ld (H : Heap) (kv : KV) (cs : List AV) (off : Nat) : nth (ldC H kv) none cs off = match cs[off]? with | some v => kv v H | none => none := by
  rw [nth_eq]
  cases cs[off]? with
  | none => rfl
  | some v => exact fAV_eq v _
theorem ld1_eq (a : AV) (H : Heap) (kv : KV) : ld1 a H kv = match (match rd H a 1 with | some [v] => some v | _ => none) with | some v => kv v H | none => none := by
  cases a with
  | ptr id off =>
    show hget H id (ldO off H kv) = _
    rw [hget_eq]
    simp only [rd]
    cases H.get id with
    | row bx e cs =>
      show nth (ldC H kv) none cs off = _
      rw [nth_ld]
      dsimp only
      rw [take1]
    | _ => rfl
  | eptr tmp cs off =>
    show nth (ldC H kv) none cs off = _
    rw [nth_ld]
    simp only [rd]
    rw [take1]
  | _ => rfl
theorem ldK_eq (ty : TypeId) (H : Heap) (kv : KV) (a : AV) : ldK P ty H kv a = match loadA P H ty a with | some v => kv v H | none => none := by
  have hN : ldN P ty H kv a = match loadA P H ty a with | some v => kv v H | none => none := by
    unfold ldN
    cases loadA P H ty a with
    | none => rfl
    | some v => exact fAV_eq v _
  unfold ldK
  cases hg : tagg P ty with
  | none => simp only [loadA, hg]
  | some b =>
    cases b with
    | true => exact hN
    | false =>
      show ld1 a H kv = _
      rw [ld1_eq]
      simp only [loadA, loadN, hg]
      rfl
theorem xLoad_eq (ty : TypeId) (a : Operand) (t : Tr) (H : Heap) (kv : KV) (kc : KC) : xLoad P ty a t H kv kc = dg (opE P (.load ty a) (rdr t) H) H kv kc := by
  rw [xLoad, evK_eq]
  show _ = dg (match evF (rdr t) a with
    | some a => pureR H (loadA P H ty a)
    | none => none) H kv kc
  cases evF (rdr t) a with
  | none => rfl
  | some a =>
    dsimp only
    rw [ldK_eq]
    cases loadA P H ty a <;> rfl

def cT {α : Type} (_ : α) : Bool := true
def cT2 {α β : Type} (_ : α) (_ : β) : Bool := true
def cT3 {α β γ : Type} (_ : α) (_ : β) (_ : γ) : Bool := true
def cT4 {α β γ δ : Type} (_ : α) (_ : β) (_ : γ) (_ : δ) : Bool := true
def cFl {α : Type} (_ : α) : Bool := false
def cellF (v : AV) : Bool := @AV.casesOn (fun _ => Bool) v false cT cT2 cT cT2 cT3 true cT4 cT2 true cT true cT2 true cT2 true cFl cFl
theorem cellF_eq (v : AV) : cellF v = v.isCell := by cases v <;> rfl
theorem cells_cell {v : AV} (h : cellF v = true) : v.cells = [v] := by
  cases v <;> first | rfl | cases h
def one (r : Option Nat) : Bool := @Option.rec Nat (fun _ => Bool) false (Nat.beq 1) r
def stGen (ty : TypeId) (a v : AV) (H : Heap) (kv : KV) : R := @Option.rec Heap (fun _ => R) none (kv .undef) (storeA P H ty a v)
def stR3 (kv : KV) (H : Heap) : R := kv .undef H
def stR2 (id : Nat) (bx : Bool) (e : TypeId) (H : Heap) (kv : KV) (cs : List AV) : R := hset H id (.row bx e cs) (kv .undef)
def stR1 (id off : Nat) (v : AV) (H : Heap) (kv : KV) (bx : Bool) (e : TypeId) (cs : List AV) : R :=
  @Bool.rec (fun _ => R) none (st v cs off (stR2 id bx e H kv)) (Nat.ble (Nat.succ off) (lenF cs 0))
def stO (id off : Nat) (v : AV) (H : Heap) (kv : KV) (o : Ob) : R := @Ob.casesOn (fun _ => R) o none (stR1 id off v H kv) (fun _ => none)
def st1 (v : AV) (H : Heap) (kv : KV) (id off : Nat) : R := hget H id (stO id off v H kv)
def stB (ty : TypeId) (a v : AV) (H : Heap) (kv : KV) : R := @Bool.rec (fun _ => R) (stGen P ty a v H kv) (casePtr none (st1 v H kv) a) (cellF v)
def stA (ty : TypeId) (a v : AV) (H : Heap) (kv : KV) : R := @Bool.rec (fun _ => R) (stGen P ty a v H kv) (stB P ty a v H kv) (one (tsz P ty))
def xSt2 (ty : TypeId) (H : Heap) (kv : KV) (a v : AV) : R := stA P ty a v H kv
def xSt1 (ty : TypeId) (x : Operand) (t : Tr) (H : Heap) (kv : KV) (a : AV) : R := evK x t (xSt2 P ty H kv a)
def xStore (ty : TypeId) (a x : Operand) (t : Tr) (H : Heap) (kv : KV) (kc : KC) : R := evK a t (xSt1 P ty x t H kv)
theorem stGen_eq (ty : TypeId) (a v : AV) (H : Heap) (kv : KV) (kc : KC) : stGen P ty a v H kv = dg (heapR (storeA P H ty a v)) H kv kc := by
  unfold stGen
  cases storeA P H ty a v <;> rfl
theorem stA_eq (ty : TypeId) (a v : AV) (H : Heap) (kv : KV) (kc : KC) : stA P ty a v H kv = dg (heapR (storeA P H ty a v)) H kv kc := by
  unfold stA
  cases h1 : one (tsz P ty) with
  | false => exact stGen_eq P ty a v H kv kc
  | true =>
    show stB P ty a v H kv = _
    unfold stB
    cases h2 : cellF v with
    | false => exact stGen_eq P ty a v H kv kc
    | true =>
      have hz : tsz P ty = some 1 := by
        cases hz : tsz P ty with
        | none => rw [hz] at h1; exact absurd h1 (by decide)
        | some n =>
          rw [hz] at h1
          have : Nat.beq 1 n = true := h1
          rw [← Nat.eq_of_beq_eq_true this]
      cases a with
      | ptr id off =>
        show hget H id (stO id off v H kv) = _
        rw [hget_eq]
        simp only [storeA, hz]
        cases H.get id with
        | row bx e cs =>
          show stR1 id off v H kv bx e cs = _
          unfold stR1
          rw [lenF_eq]
          simp only [cells_cell h2, List.length_singleton, List.all_cons, List.all_nil, Bool.and_true, ← cellF_eq, h2, true_and, Nat.zero_add]
          cases hb : Nat.ble (Nat.succ off) cs.length with
          | false =>
            have : ¬ (off + 1 ≤ cs.length ∧ 0 < 1) := fun c => by rw [Nat.ble_eq_true_of_le c.1] at hb; exact absurd hb (by decide)
            rw [if_neg this]; rfl
          | true =>
            have hl : off + 1 ≤ cs.length := Nat.le_of_ble_eq_true hb
            rw [if_pos ⟨hl, by omega⟩]
            show st v cs off (stR2 id bx e H kv) = _
            rw [st_eq]
            show hset H id (.row bx e (cs.set off v)) (kv .undef) = _
            rw [hset_eq, List.set_eq_take_append_cons_drop, if_pos (by omega)]
            simp [heapR, dg]
        | _ => rfl
      | _ => simp only [storeA]; rfl
theorem xStore_eq (ty : TypeId) (a x : Operand) (t : Tr) (H : Heap) (kv : KV) (kc : KC) : xStore P ty a x t H kv kc = dg (opE P (.store ty a x) (rdr t) H) H kv kc := by
  rw [xStore, evK_eq]
  show _ = dg (match evF (rdr t) a, evF (rdr t) x with
    | some a, some x => heapR (storeA P H ty a x)
    | _, _ => none) H kv kc
  cases evF (rdr t) a with
  | none => rfl
  | some a =>
    show evK x t (xSt2 P ty H kv a) = _
    rw [evK_eq]
    cases evF (rdr t) x with
    | none => rfl
    | some v => exact stA_eq P ty a v H kv kc
end
end
end Go.Ab.F

/- The abstract machine for the kernel: operations with continuations, second part. -/
namespace Go.Ab.F
set_option linter.unusedVariables false
noncomputable section

def opt (r : Option AV) (H : Heap) (kv : KV) : R := @Option.rec AV (fun _ => R) none (ldN2 H kv) r
theorem opt_eq (r : Option AV) (H : Heap) (kv : KV) (kc : KC) : opt r H kv = dg (pureR H r) H kv kc := by
  cases r with
  | none => rfl
  | some v => exact fAV_eq v _

/-! two numbers -/
abbrev II := IntKind → Int → IntKind → Int → VK → R
def gII (op : BinOp) (k : IntKind) (a : Int) (k' : IntKind) (b : Int) (kv : VK) : R :=
  match (match op with
    | .shl => if b < 0 then none else some (.int k (k.wrap (a * 2 ^ (min b.toNat k.bits))))
    | .shr => if b < 0 then none else some (.int k (a.fdiv (2 ^ (min b.toNat k.bits))))
    | _ => if k = k' then intOp op k a b else none : Option AV) with
  | some v => fAV v kv
  | none => none
def guK (k k' : IntKind) (r : R) : R := @Bool.rec (fun _ => R) none r (kEq k k')
def iAdd (k : IntKind) (a : Int) (k' : IntKind) (b : Int) (kv : VK) : R := guK k k' (fInt (wrapF k (Int.add a b)) k kv)
def iSub (k : IntKind) (a : Int) (k' : IntKind) (b : Int) (kv : VK) : R := guK k k' (fInt (wrapF k (Int.sub a b)) k kv)
def iEq (k : IntKind) (a : Int) (k' : IntKind) (b : Int) (kv : VK) : R := guK k k' (fBool (eqI a b) kv)
def bnot (b : Bool) : Bool := @Bool.rec (fun _ => Bool) true false b
theorem bnot_eq (b : Bool) : bnot b = !b := by cases b <;> rfl
def iNe (k : IntKind) (a : Int) (k' : IntKind) (b : Int) (kv : VK) : R := guK k k' (fBool (bnot (eqI a b)) kv)
def iLt (k : IntKind) (a : Int) (k' : IntKind) (b : Int) (kv : VK) : R := guK k k' (fBool (ltI a b) kv)
def iLe (k : IntKind) (a : Int) (k' : IntKind) (b : Int) (kv : VK) : R := guK k k' (fBool (bnot (ltI b a)) kv)
def iGt (k : IntKind) (a : Int) (k' : IntKind) (b : Int) (kv : VK) : R := guK k k' (fBool (ltI b a) kv)
def iGe (k : IntKind) (a : Int) (k' : IntKind) (b : Int) (kv : VK) : R := guK k k' (fBool (bnot (ltI a b)) kv)
def opII (op : BinOp) : II := @BinOp.casesOn (fun _ => II) op iAdd iSub (gII .mul) (gII .quo) (gII .rem) (gII .and) (gII .or) (gII .xor) (gII .shl) (gII .shr) (gII .andNot) iEq iNe iLt iLe iGt iGe
theorem guK_eq (k k' : IntKind) (r : Option AV) (kv : VK) (x : R) (h : x = match r with | some v => kv v | none => none) : guK k k' x = match (if k = k' then r else none) with | some v => kv v | none => none := by
  unfold guK
  cases hk : kEq k k' with
  | false => rw [if_neg (kEq_false hk)]
  | true => rw [if_pos (kEq_true hk)]; exact h
theorem decide_le_lt (a b : Int) : (!decide (b < a)) = decide (a ≤ b) := by
  by_cases h : b < a
  · simp [h]
  · simp [h]; omega
theorem opII_eq (P : Program) (op : BinOp) (ty : TypeId) (ox oy : Operand) (k : IntKind) (a : Int) (k' : IntKind) (b : Int) (kv : VK) : opII op k a k' b kv = match binA P op ty ox oy (.int k a) (.int k' b) with | some v => kv v | none => none := by
  have hg : ∀ op, gII op k a k' b kv = match binA P op ty ox oy (.int k a) (.int k' b) with | some v => kv v | none => none := fun op => by
    simp only [gII, fAV_eq, binA]
    rfl
  cases op with
  | mul => exact hg .mul
  | quo => exact hg .quo
  | rem => exact hg .rem
  | and => exact hg .and
  | or => exact hg .or
  | xor => exact hg .xor
  | shl => exact hg .shl
  | shr => exact hg .shr
  | andNot => exact hg .andNot
  | add => exact guK_eq k k' (some (.int k (k.wrap (a + b)))) kv _ ((fInt_eq _ _ _).trans (by rw [wrapF_eq]; rfl))
  | sub => exact guK_eq k k' (some (.int k (k.wrap (a - b)))) kv _ ((fInt_eq _ _ _).trans (by rw [wrapF_eq]; rfl))
  | eql => exact guK_eq k k' (some (.bool (a == b))) kv _ ((fBool_eq _ _).trans (by rw [eqI_eq]))
  | neq => exact guK_eq k k' (some (.bool (a != b))) kv _ ((fBool_eq _ _).trans (by rw [bnot_eq, eqI_eq]; rfl))
  | lss => exact guK_eq k k' (some (.bool (a < b))) kv _ ((fBool_eq _ _).trans (by rw [ltI_eq]))
  | leq => exact guK_eq k k' (some (.bool (a ≤ b))) kv _ ((fBool_eq _ _).trans (by rw [bnot_eq, ltI_eq, decide_le_lt]))
  | gtr => exact guK_eq k k' (some (.bool (a > b))) kv _ ((fBool_eq _ _).trans (by rw [ltI_eq]))
  | geq => exact guK_eq k k' (some (.bool (a ≥ b))) kv _ ((fBool_eq _ _).trans (by rw [bnot_eq, ltI_eq, decide_le_lt]))

/-! two strings -/
abbrev SS := List UInt8 → List UInt8 → VK → R
def gSS (op : BinOp) (a b : List UInt8) (kv : VK) : R := match strOp op a b with | some v => fAV v kv | none => none
def sEq (a b : List UInt8) (kv : VK) : R := fBool (eqB a b) kv
def sNe (a b : List UInt8) (kv : VK) : R := fBool (bnot (eqB a b)) kv
def opSS (op : BinOp) : SS := @BinOp.casesOn (fun _ => SS) op (gSS .add) (gSS .sub) (gSS .mul) (gSS .quo) (gSS .rem) (gSS .and) (gSS .or) (gSS .xor) (gSS .shl) (gSS .shr) (gSS .andNot) sEq sNe (gSS .lss) (gSS .leq) (gSS .gtr) (gSS .geq)
theorem opSS_eq (op : BinOp) (a b : List UInt8) (kv : VK) : opSS op a b kv = match strOp op a b with | some v => kv v | none => none := by
  have hg : ∀ op, gSS op a b kv = match strOp op a b with | some v => kv v | none => none := fun op => by
    simp only [gSS, fAV_eq]
  cases op with
  | eql => exact (fBool_eq _ _).trans (by rw [eqB_eq]; rfl)
  | neq => exact (fBool_eq _ _).trans (by rw [bnot_eq, eqB_eq]; rfl)
  | add => exact hg .add
  | sub => exact hg .sub
  | mul => exact hg .mul
  | quo => exact hg .quo
  | rem => exact hg .rem
  | and => exact hg .and
  | or => exact hg .or
  | xor => exact hg .xor
  | shl => exact hg .shl
  | shr => exact hg .shr
  | andNot => exact hg .andNot
  | lss => exact hg .lss
  | leq => exact hg .leq
  | gtr => exact hg .gtr
  | geq => exact hg .geq

section
variable (P : Program)
def gBin (op : BinOp) (ty : TypeId) (ox oy : Operand) (kv : VK) (a b : AV) : R := @Option.rec AV (fun _ => R) none (fun v => fAV v kv) (binA P op ty ox oy a b)
theorem gBin_eq (op : BinOp) (ty : TypeId) (ox oy : Operand) (kv : VK) (a b : AV) : gBin P op ty ox oy kv a b = match binA P op ty ox oy a b with | some v => kv v | none => none := by
  unfold gBin
  cases binA P op ty ox oy a b with
  | none => rfl
  | some v => exact fAV_eq v kv
def bI2 (op : BinOp) (k : IntKind) (n : Int) (kv : VK) (k' : IntKind) (m : Int) : R := opII op k n k' m kv
def bI (op : BinOp) (ty : TypeId) (ox oy : Operand) (kv : VK) (b : AV) (k : IntKind) (n : Int) : R := caseInt (gBin P op ty ox oy kv (.int k n) b) (bI2 op k n kv) b
def bS2 (op : BinOp) (s : List UInt8) (kv : VK) (s' : List UInt8) : R := opSS op s s' kv
def bS (op : BinOp) (ty : TypeId) (ox oy : Operand) (kv : VK) (b : AV) (s : List UInt8) : R := caseStr (gBin P op ty ox oy kv (.str s) b) (bS2 op s kv) b
def bD (op : BinOp) (ty : TypeId) (ox oy : Operand) (kv : VK) (a b : AV) : R := caseStr (gBin P op ty ox oy kv a b) (bS P op ty ox oy kv b) a
def bin2 (op : BinOp) (ty : TypeId) (ox oy : Operand) (kv : VK) (a b : AV) : R := caseInt (bD P op ty ox oy kv a b) (bI P op ty ox oy kv b) a
theorem bin2_eq (op : BinOp) (ty : TypeId) (ox oy : Operand) (kv : VK) (a b : AV) : bin2 P op ty ox oy kv a b = match binA P op ty ox oy a b with | some v => kv v | none => none := by
  cases a with
  | int k n =>
    cases b with
    | int k' m => exact opII_eq P op ty ox oy k n k' m kv
    | _ => exact gBin_eq P op ty ox oy kv _ _
  | str s =>
    cases b with
    | str s' => exact opSS_eq op s s' kv
    | _ => exact gBin_eq P op ty ox oy kv _ _
  | _ => exact gBin_eq P op ty ox oy kv _ _
def xBin1 (op : BinOp) (ty : TypeId) (ox oy : Operand) (t : Tr) (H : Heap) (kv : KV) (a : AV) : R := evK oy t (bin2 P op ty ox oy (sw kv H) a)
def xBin (op : BinOp) (ty : TypeId) (ox oy : Operand) (_ : TypeId) (t : Tr) (H : Heap) (kv : KV) (kc : KC) : R := evK ox t (xBin1 P op ty ox oy t H kv)
theorem xBin_eq (op : BinOp) (ty : TypeId) (x y : Operand) (ty' : TypeId) (t : Tr) (H : Heap) (kv : KV) (kc : KC) : xBin P op ty x y ty' t H kv kc = dg (opE P (.binOp op ty x y ty') (rdr t) H) H kv kc := by
  rw [xBin, evK_eq]
  show _ = dg (match evF (rdr t) x, evF (rdr t) y with
    | some a, some b => pureR H (binA P op ty x y a b)
    | _, _ => none) H kv kc
  cases evF (rdr t) x with
  | none => rfl
  | some a =>
    show evK y t (bin2 P op ty x y (sw kv H) a) = _
    rw [evK_eq]
    cases evF (rdr t) y with
    | none => rfl
    | some b =>
      show bin2 P op ty x y (sw kv H) a b = _
      rw [bin2_eq]
      dsimp only
      cases binA P op ty x y a b <;> rfl

/-! addresses -/
def fOff (s : TypeId) (f : Nat) : Option Nat :=
  match P.underlying s with
  | some (.struct fields) => match fields[f]? with
    | some fd => match tsz P fd.type with
      | some n => if n = 0 then none else some fd.offset
      | none => none
    | none => none
  | _ => none
def faP2 (id : Nat) (H : Heap) (kv : KV) (q : Nat) : R := kv (.ptr id q) H
def faP (id off : Nat) (o : Nat) (H : Heap) (kv : KV) : R := fNat (Nat.add off o) (faP2 id H kv)
def faE2 (tmp : Bool) (cs : List AV) (H : Heap) (kv : KV) (q : Nat) : R := kv (.eptr tmp cs q) H
def faE (tmp : Bool) (cs : List AV) (off : Nat) (o : Nat) (H : Heap) (kv : KV) : R := fNat (Nat.add off o) (faE2 tmp cs H kv)
def m0 (o : Nat) (H : Heap) (kv : KV) : R := none
def m1 {α : Type} (_ : α) (o : Nat) (H : Heap) (kv : KV) : R := none
def m2 {α β : Type} (_ : α) (_ : β) (o : Nat) (H : Heap) (kv : KV) : R := none
def m3 {α β γ : Type} (_ : α) (_ : β) (_ : γ) (o : Nat) (H : Heap) (kv : KV) : R := none
def m4 {α β γ δ : Type} (_ : α) (_ : β) (_ : γ) (_ : δ) (o : Nat) (H : Heap) (kv : KV) : R := none
def fa2 (a : AV) : Nat → Heap → KV → R := @AV.casesOn (fun _ => Nat → Heap → KV → R) a m0 m1 m2 m1 faP faE m0 m4 m2 m0 m1 m0 m2 m0 m2 m0 m1 m1
def fa1 (H : Heap) (kv : KV) (a : AV) (o : Nat) : R := fa2 a o H kv
def fa0 (s : TypeId) (f : Nat) (H : Heap) (kv : KV) (a : AV) : R := @Option.rec Nat (fun _ => R) none (fa1 H kv a) (fOff P s f)
def xFieldAddr (s : TypeId) (x : Operand) (f : Nat) (t : Tr) (H : Heap) (kv : KV) (kc : KC) : R := evK x t (fa0 P s f H kv)
theorem xFieldAddr_eq (s : TypeId) (x : Operand) (f : Nat) (t : Tr) (H : Heap) (kv : KV) (kc : KC) : xFieldAddr P s x f t H kv kc = dg (opE P (.fieldAddr s x f) (rdr t) H) H kv kc := by
  rw [xFieldAddr, evK_eq]
  show _ = dg (match evF (rdr t) x with
    | some a => pureR H (fieldAddrA P s a f)
    | none => none) H kv kc
  cases evF (rdr t) x with
  | none => rfl
  | some a =>
    dsimp only
    have h : fieldAddrA P s a f = match fOff P s f with
      | some o => match a with
        | .ptr id off => some (.ptr id (off + o))
        | .eptr tmp cs off => some (.eptr tmp cs (off + o))
        | _ => none
      | none => none := by
      unfold fieldAddrA fOff
      cases P.underlying s with
      | none => rfl
      | some d =>
        cases d with
        | struct fields =>
          dsimp only
          cases fields[f]? with
          | none => rfl
          | some fd =>
            dsimp only
            cases tsz P fd.type with
            | none => rfl
            | some n => dsimp only; split <;> rfl
        | _ => rfl
    rw [h]
    unfold fa0
    cases fOff P s f with
    | none => rfl
    | some o =>
      cases a with
      | ptr id off => exact fNat_eq _ _
      | eptr tmp cs off => exact fNat_eq _ _
      | _ => rfl

def ixSl (ty : TypeId) : Option Nat :=
  match P.underlying ty with
  | some (.slice e) => tsz P e
  | _ => none
def iaS3 (id : Nat) (H : Heap) (kv : KV) (q : Nat) : R := kv (.ptr id q) H
def iaS2 (m : Nat) (id off len e esz : Nat) (H : Heap) (kv : KV) : R := @Bool.rec (fun _ => R) none (fNat (Nat.add off (Nat.mul m esz)) (iaS3 id H kv)) (Nat.ble (Nat.succ m) len)
def iaS (m : Nat) (H : Heap) (kv : KV) (esz : Nat) (id off len e : Nat) : R := @Bool.rec (fun _ => R) none (iaS2 m id off len e esz H kv) (Nat.beq e esz)
def iaI2 (tmp : Bool) (esz : Nat) (H : Heap) (kv : KV) (r : List AV) : R := @Bool.rec (fun _ => R) none (kv (.eptr tmp r 0) H) (Nat.beq (lenF r 0) esz)
def iaI1 (tmp : Bool) (esz : Nat) (H : Heap) (kv : KV) (r : List AV) : R := fList r (iaI2 tmp esz H kv)
def iaI (m : Nat) (H : Heap) (kv : KV) (esz : Nat) (tmp : Bool) (rows : List (List AV)) : R := nth (iaI1 tmp esz H kv) none rows m
def caseIsl {α : Type} (d : α) (f : Bool → List (List AV) → α) (y : AV) : α :=
  @AV.casesOn (fun _ => α) y d (fun _ => d) (fun _ _ => d) (fun _ => d) (fun _ _ => d) (fun _ _ _ => d) d (fun _ _ _ _ => d) f d (fun _ => d) d (fun _ _ => d) d (fun _ _ => d) d (fun _ => d) (fun _ => d)
def ia3 (m : Nat) (H : Heap) (kv : KV) (a : AV) (esz : Nat) : R := caseSl (caseIsl none (iaI m H kv esz) a) (iaS m H kv esz) a
def iaG (ty : TypeId) (H : Heap) (kv : KV) (a b : AV) : R := opt (indexAddrA P ty a b) H kv
def ia2 (ty : TypeId) (H : Heap) (kv : KV) (a b : AV) (m : Nat) : R := @Option.rec Nat (fun _ => R) (iaG P ty H kv a b) (ia3 m H kv a) (ixSl P ty)
def ia1 (ty : TypeId) (H : Heap) (kv : KV) (a b : AV) (_ : IntKind) (i : Int) : R := @Int.rec (fun _ => R) (ia2 P ty H kv a b) (fun _ => none) i
def ia0 (ty : TypeId) (H : Heap) (kv : KV) (a b : AV) : R := caseInt none (ia1 P ty H kv a b) b
def xIA1 (ty : TypeId) (i : Operand) (t : Tr) (H : Heap) (kv : KV) (a : AV) : R := evK i t (ia0 P ty H kv a)
def xIndexAddr (ty : TypeId) (x i : Operand) (t : Tr) (H : Heap) (kv : KV) (kc : KC) : R := evK x t (xIA1 P ty i t H kv)
theorem ia0_eq (ty : TypeId) (H : Heap) (kv : KV) (kc : KC) (a b : AV) : ia0 P ty H kv a b = dg (pureR H (indexAddrA P ty a b)) H kv kc := by
  cases b with
  | int k i =>
    cases i with
    | negSucc m =>
      simp only [indexAddrA]
      rw [if_neg (by omega)]; rfl
    | ofNat m =>
      show ia2 P ty H kv a (.int k (.ofNat m)) m = _
      unfold ia2
      cases hs : ixSl P ty with
      | none => exact opt_eq _ _ _ _
      | some esz =>
        have hu : ∃ e, P.underlying ty = some (.slice e) ∧ tsz P e = some esz := by
          unfold ixSl at hs
          split at hs <;> try (cases hs; done)
          rename_i e he
          exact ⟨e, he, hs⟩
        obtain ⟨e0, hu, hz⟩ := hu
        simp only [indexAddrA, hu]
        rw [if_pos (by simp)]
        show ia3 m H kv a esz = _
        cases a with
        | sl id off len e =>
          show iaS m H kv esz id off len e = _
          simp only [hz]
          unfold iaS
          cases he : Nat.beq e esz with
          | false =>
            have : ¬ (e = esz ∧ Int.ofNat m < (len : Int)) := fun c => by rw [c.1] at he; exact absurd he (by simp)
            rw [if_neg this]; rfl
          | true =>
            have he := Nat.eq_of_beq_eq_true he
            show iaS2 m id off len e esz H kv = _
            unfold iaS2
            cases hb : Nat.ble (Nat.succ m) len with
            | false =>
              have : ¬ (e = esz ∧ Int.ofNat m < (len : Int)) := fun c => by
                have hc : m < len := by have := c.2; simp at this; omega
                rw [Nat.ble_eq_true_of_le hc] at hb; exact absurd hb (by decide)
              rw [if_neg this]; rfl
            | true =>
              have hl : m < len := Nat.le_of_ble_eq_true hb
              rw [if_pos ⟨he, by simp; omega⟩]
              exact fNat_eq _ _
        | isl tmp rows =>
          show nth (iaI1 tmp esz H kv) none rows m = _
          rw [nth_eq]
          simp only [hz, Int.ofNat_eq_natCast, Int.toNat_natCast]
          cases rows[m]? with
          | none => rfl
          | some r =>
            show fList r (iaI2 tmp esz H kv) = _
            rw [fList_eq]
            unfold iaI2
            rw [lenF_eq, Nat.zero_add]
            cases hb : Nat.beq r.length esz with
            | false =>
              have : ¬ r.length = esz := Nat.ne_of_beq_eq_false hb
              dsimp only
              rw [if_neg this]; rfl
            | true =>
              dsimp only
              rw [if_pos (Nat.eq_of_beq_eq_true hb)]; rfl
        | _ => rfl
  | _ => rfl
theorem xIndexAddr_eq (ty : TypeId) (x i : Operand) (t : Tr) (H : Heap) (kv : KV) (kc : KC) : xIndexAddr P ty x i t H kv kc = dg (opE P (.indexAddr ty x i) (rdr t) H) H kv kc := by
  rw [xIndexAddr, evK_eq]
  show _ = dg (match evF (rdr t) x, evF (rdr t) i with
    | some a, some b => pureR H (indexAddrA P ty a b)
    | _, _ => none) H kv kc
  cases evF (rdr t) x with
  | none => rfl
  | some a =>
    show evK i t (ia0 P ty H kv a) = _
    rw [evK_eq]
    cases evF (rdr t) i with
    | none => rfl
    | some b => exact ia0_eq P ty H kv kc a b

/-! an element -/
inductive IxK where
  | str | cell | other
def ixK (ty : TypeId) : IxK :=
  match P.underlying ty with
  | some .string => .str
  | some (.array _ e) => match tsz P e, tagg P e with
    | some 1, some false => .cell
    | _, _ => .other
  | _ => .other
def ixLen (ty : TypeId) : Nat :=
  match P.underlying ty with
  | some (.array n _) => n
  | _ => 0
def ixS2 (H : Heap) (kv : KV) (n : Nat) : R := kv (.int .u8 (.ofNat n)) H
def ixS1 (H : Heap) (kv : KV) (c : UInt8) : R := fNat (u8 c) (ixS2 H kv)
def ixS (m : Nat) (H : Heap) (kv : KV) (s : List UInt8) : R := nth (ixS1 H kv) none s m
def ixC (ty : TypeId) (m : Nat) (H : Heap) (kv : KV) (cs : List AV) : R := @Bool.rec (fun _ => R) none (nth (ldC H kv) none cs m) (Nat.ble (Nat.succ m) (ixLen P ty))
def ix2 (ty : TypeId) (H : Heap) (kv : KV) (a b : AV) (m : Nat) : R := @IxK.casesOn (fun _ => R) (ixK P ty) (caseStr none (ixS m H kv) a) (caseAgg none (ixC P ty m H kv) a) (opt (indexA P ty a b) H kv)
def ix1 (ty : TypeId) (H : Heap) (kv : KV) (a b : AV) (_ : IntKind) (i : Int) : R := @Int.rec (fun _ => R) (ix2 P ty H kv a b) (fun _ => none) i
def ix0 (ty : TypeId) (H : Heap) (kv : KV) (a b : AV) : R := caseInt none (ix1 P ty H kv a b) b
def xIx1 (ty : TypeId) (i : Operand) (t : Tr) (H : Heap) (kv : KV) (a : AV) : R := evK i t (ix0 P ty H kv a)
def xIndex (ty : TypeId) (x i : Operand) (t : Tr) (H : Heap) (kv : KV) (kc : KC) : R := evK x t (xIx1 P ty i t H kv)
theorem ix0_eq (ty : TypeId) (H : Heap) (kv : KV) (kc : KC) (a b : AV) : ix0 P ty H kv a b = dg (pureR H (indexA P ty a b)) H kv kc := by
  cases b with
  | int k i =>
    cases i with
    | negSucc m =>
      simp only [indexA]
      rw [if_neg (by omega)]; rfl
    | ofNat m =>
      show ix2 P ty H kv a (.int k (.ofNat m)) m = _
      unfold ix2
      cases hk : ixK P ty with
      | other => exact opt_eq _ _ _ _
      | str =>
        have hu : P.underlying ty = some .string := by
          unfold ixK at hk
          split at hk <;> try (cases hk; done)
          · assumption
          · split at hk <;> cases hk
        simp only [indexA, hu]
        rw [if_pos (by simp)]
        cases a with
        | str s =>
          show nth (ixS1 H kv) none s m = _
          rw [nth_eq]
          simp only [Int.ofNat_eq_natCast, Int.toNat_natCast]
          cases s[m]? with
          | none => rfl
          | some c => exact fNat_eq _ _
        | _ => rfl
      | cell =>
        have hu : ∃ n e, P.underlying ty = some (.array n e) ∧ tsz P e = some 1 ∧ tagg P e = some false := by
          unfold ixK at hk
          split at hk <;> try (cases hk; done)
          rename_i n e he
          split at hk <;> try (cases hk; done)
          exact ⟨n, e, he, by assumption, by assumption⟩
        obtain ⟨n, e, hu, hz, hg⟩ := hu
        have hlen : ixLen P ty = n := by unfold ixLen; rw [hu]
        simp only [indexA, hu]
        rw [if_pos (by simp)]
        cases a with
        | agg cs =>
          show ixC P ty m H kv cs = _
          unfold ixC
          rw [hlen]
          simp only [hz, partA, hg, Int.ofNat_eq_natCast, Int.toNat_natCast, Nat.mul_one]
          cases hb : Nat.ble (Nat.succ m) n with
          | false =>
            have : ¬ ((m : Int) < (n : Int)) := fun c => by
              rw [Nat.ble_eq_true_of_le (show m + 1 ≤ n by omega)] at hb; exact absurd hb (by decide)
            dsimp only
            rw [if_neg this]; rfl
          | true =>
            have hl : m < n := Nat.le_of_ble_eq_true hb
            dsimp only
            rw [if_pos (by omega), nth_ld]
            cases cs[m]? <;> rfl
        | _ => rfl
  | _ => rfl
theorem xIndex_eq (ty : TypeId) (x i : Operand) (t : Tr) (H : Heap) (kv : KV) (kc : KC) : xIndex P ty x i t H kv kc = dg (opE P (.index ty x i) (rdr t) H) H kv kc := by
  rw [xIndex, evK_eq]
  show _ = dg (match evF (rdr t) x, evF (rdr t) i with
    | some a, some b => pureR H (indexA P ty a b)
    | _, _ => none) H kv kc
  cases evF (rdr t) x with
  | none => rfl
  | some a =>
    show evK i t (ix0 P ty H kv a) = _
    rw [evK_eq]
    cases evF (rdr t) i with
    | none => rfl
    | some b => exact ix0_eq P ty H kv kc a b

/-! a field of a value -/
def fVal (ty : TypeId) (f : Nat) : Option Nat :=
  match P.underlying ty with
  | some (.struct fields) => match fields[f]? with
    | some fd => match tagg P fd.type with
      | some false => some fd.offset
      | _ => none
    | none => none
  | _ => none
def fvC (H : Heap) (kv : KV) (o : Nat) (cs : List AV) : R := nth (ldC H kv) none cs o
def fv1 (H : Heap) (kv : KV) (a : AV) (o : Nat) : R := caseAgg none (fvC H kv o) a
def fv0 (ty : TypeId) (f : Nat) (H : Heap) (kv : KV) (a : AV) : R := @Option.rec Nat (fun _ => R) (opt (fieldA P ty a f) H kv) (fv1 H kv a) (fVal P ty f)
def xField (ty : TypeId) (x : Operand) (f : Nat) (t : Tr) (H : Heap) (kv : KV) (kc : KC) : R := evK x t (fv0 P ty f H kv)
theorem xField_eq (ty : TypeId) (x : Operand) (f : Nat) (t : Tr) (H : Heap) (kv : KV) (kc : KC) : xField P ty x f t H kv kc = dg (opE P (.field ty x f) (rdr t) H) H kv kc := by
  rw [xField, evK_eq]
  show _ = dg (match evF (rdr t) x with
    | some a => pureR H (fieldA P ty a f)
    | none => none) H kv kc
  cases evF (rdr t) x with
  | none => rfl
  | some a =>
    show fv0 P ty f H kv a = dg (pureR H (fieldA P ty a f)) H kv kc
    unfold fv0
    cases hf : fVal P ty f with
    | none => exact opt_eq _ _ _ _
    | some o =>
      unfold fVal at hf
      split at hf <;> try (cases hf; done)
      rename_i fields hu
      split at hf <;> try (cases hf; done)
      rename_i fd hfd
      split at hf <;> try (cases hf; done)
      rename_i hg
      cases hf
      simp only [fieldA, hu]
      cases a with
      | agg cs =>
        show nth (ldC H kv) none cs fd.offset = _
        rw [nth_ld]
        simp only [hfd, partA, hg]
        cases cs[fd.offset]? <;> rfl
      | _ => rfl
def xtC (i : Nat) (H : Heap) (kv : KV) (vs : List AV) : R := nth (ldC H kv) none vs i
def xExtract (x : Operand) (i : Nat) (t : Tr) (H : Heap) (kv : KV) (kc : KC) : R := evK x t (caseTup none (xtC i H kv))
theorem xExtract_eq (x : Operand) (i : Nat) (t : Tr) (H : Heap) (kv : KV) (kc : KC) : xExtract x i t H kv kc = dg (opE P (.extract x i) (rdr t) H) H kv kc := by
  rw [xExtract, evK_eq]
  show _ = dg (match evF (rdr t) x with
    | some (.tup vs) => match vs[i]? with
      | some v => some (.val v H)
      | none => none
    | _ => none) H kv kc
  cases evF (rdr t) x with
  | none => rfl
  | some a =>
    cases a with
    | tup vs =>
      show nth (ldC H kv) none vs i = _
      rw [nth_ld]
      cases h : vs[i]? <;> simp only [h] <;> rfl
    | _ => rfl

/-! new blocks -/
def alc (ty : TypeId) : Option (List AV) :=
  match tzero P ty with
  | some z => if z.cells.all AV.isCell = true then some z.cells else none
  | none => none
def pu2 (n : Nat) (l : List Ob) (o : Ob) (kv : KV) (m : Nat) : R := kv (.ptr n 0) ⟨m, o :: l⟩
def pu1 (n : Nat) (l : List Ob) (o : Ob) (kv : KV) : R := fNat (Nat.succ n) (pu2 n l o kv)
def pushK (H : Heap) : Ob → KV → R := @Heap.rec (fun _ => Ob → KV → R) pu1 H
theorem pushK_eq (H : Heap) (o : Ob) (kv : KV) : pushK H o kv = kv (.ptr H.n 0) (H.push o) := by
  obtain ⟨n, l⟩ := H
  exact fNat_eq (Nat.succ n) (pu2 n l o kv)
def al2 (ty : TypeId) (H : Heap) (kv : KV) (cs : List AV) : R := pushK H (.row true ty cs) kv
def al1 (ty : TypeId) (H : Heap) (kv : KV) (cs : List AV) : R := fList cs (al2 ty H kv)
def xAlloc (ty : TypeId) (t : Tr) (H : Heap) (kv : KV) (kc : KC) : R := @Option.rec (List AV) (fun _ => R) none (al1 ty H kv) (alc P ty)
theorem xAlloc_eq (ty : TypeId) (t : Tr) (H : Heap) (kv : KV) (kc : KC) : xAlloc P ty t H kv kc = dg (opE P (.alloc ty) (rdr t) H) H kv kc := by
  show _ = dg (match tzero P ty with
    | some z => if z.cells.all AV.isCell = true then some (.val (.ptr H.n 0) (H.push (.row true ty z.cells))) else none
    | none => none) H kv kc
  unfold xAlloc alc
  cases tzero P ty with
  | none => rfl
  | some z =>
    dsimp only
    split
    · exact (fList_eq _ _).trans (pushK_eq _ _ _)
    · rfl
def bxG (ty : TypeId) (H : Heap) (kv : KV) (v : AV) : R :=
  match (if v.cells.all AV.isCell = true then some v.cells else none) with
  | some cs => fList cs (al2 ty H kv)
  | none => none
def bx0 (ty : TypeId) (H : Heap) (kv : KV) (v : AV) : R := @Bool.rec (fun _ => R) (bxG ty H kv v) (pushK H (.row true ty [v]) kv) (cellF v)
def xBox (ty : TypeId) (x : Operand) (t : Tr) (H : Heap) (kv : KV) (kc : KC) : R := evK x t (bx0 ty H kv)
theorem xBox_eq (ty : TypeId) (x : Operand) (t : Tr) (H : Heap) (kv : KV) (kc : KC) : xBox ty x t H kv kc = dg (opE P (.box ty x) (rdr t) H) H kv kc := by
  rw [xBox, evK_eq]
  show _ = dg (match evF (rdr t) x with
    | some v => if v.cells.all AV.isCell = true then some (.val (.ptr H.n 0) (H.push (.row true ty v.cells))) else none
    | none => none) H kv kc
  cases evF (rdr t) x with
  | none => rfl
  | some v =>
    show bx0 ty H kv v = _
    unfold bx0
    cases h : cellF v with
    | true =>
      dsimp only
      rw [pushK_eq, cells_cell h, if_pos (by simp [← cellF_eq, h])]; rfl
    | false =>
      show bxG ty H kv v = _
      unfold bxG
      dsimp only
      split
      · rename_i h1; split at h1 <;> cases h1
        rename_i h2
        rw [if_pos h2]
        exact (fList_eq _ _).trans (pushK_eq _ _ _)
      · rename_i h1; split at h1 <;> try (cases h1; done)
        rename_i h2
        rw [if_neg h2]; rfl

/-! built values -/
def bu1 (ty : TypeId) (H : Heap) (kv : KV) (ps : List (Nat × AV)) : R := opt (buildA P ty ps) H kv
def xBuild (ty : TypeId) (parts : Array (Nat × Operand)) (t : Tr) (H : Heap) (kv : KV) (kc : KC) : R := partsK parts.toList t (bu1 P ty H kv)
theorem xBuild_eq (ty : TypeId) (parts : Array (Nat × Operand)) (t : Tr) (H : Heap) (kv : KV) (kc : KC) : xBuild P ty parts t H kv kc = dg (opE P (.build ty parts) (rdr t) H) H kv kc := by
  rw [xBuild, partsK_eq]
  show _ = dg (match evPartsF (rdr t) parts.toList with
    | some ps => pureR H (buildA P ty ps)
    | none => none) H kv kc
  cases evPartsF (rdr t) parts.toList with
  | none => rfl
  | some ps => exact opt_eq _ _ _ _
def bs1 (ty : TypeId) (n : Nat) (H : Heap) (kv : KV) (kc : KC) (ps : List (Nat × AV)) : R := dgF (bothR (buildSliceA P H ty n ps)) H kv kc
def xBuildSlice (ty : TypeId) (n : Nat) (parts : Array (Nat × Operand)) (t : Tr) (H : Heap) (kv : KV) (kc : KC) : R := partsK parts.toList t (bs1 P ty n H kv kc)
theorem xBuildSlice_eq (ty : TypeId) (n : Nat) (parts : Array (Nat × Operand)) (t : Tr) (H : Heap) (kv : KV) (kc : KC) : xBuildSlice P ty n parts t H kv kc = dg (opE P (.buildSlice ty n parts) (rdr t) H) H kv kc := by
  rw [xBuildSlice, partsK_eq]
  show _ = dg (match evPartsF (rdr t) parts.toList with
    | some ps => bothR (buildSliceA P H ty n ps)
    | none => none) H kv kc
  cases evPartsF (rdr t) parts.toList with
  | none => rfl
  | some ps => exact dgF_eq _ _ _ _

/-! calls -/
def heapy (b : Builtin) : Bool := match b with | .append | .clear | .unsafeString => true | _ => false
def clB (b : Builtin) (tys : Array TypeId) (H : Heap) (kv : KV) (kc : KC) (args : List AV) : R := @Bool.rec (fun _ => R) (dgP (builtinA P H b tys args) H kv kc) (dgF (builtinA P H b tys args) H kv kc) (heapy b)
def clV3 (args : List AV) (kc : KC) (f : FuncId) (cap : List AV) : R := @List.casesOn AV (fun _ => R) cap (kc f args) (fun _ _ => fList (args ++ cap) (kc f))
def clV (f : Operand) (t : Tr) (kc : KC) (args : List AV) : R := evK f t (caseFn none (clV3 args kc))
def cl0 (c : Callee) : Array TypeId → Tr → Heap → KV → KC → List AV → R :=
  @Callee.casesOn (fun _ => Array TypeId → Tr → Heap → KV → KC → List AV → R) c (fun f _ t _ _ kc => clV f t kc) (fun _ _ _ _ _ _ _ _ => none) (fun b tys _ H kv kc => clB P b tys H kv kc)
def xCall (c : Call) (t : Tr) (H : Heap) (kv : KV) (kc : KC) : R := argsK c.args.toList t (cl0 P c.callee c.argTypes t H kv kc)
theorem xCall_eq (c : Call) (t : Tr) (H : Heap) (kv : KV) (kc : KC) : xCall P c t H kv kc = dg (opE P (.call c) (rdr t) H) H kv kc := by
  rw [xCall, argsK_eq]
  show _ = dg (match evsF (rdr t) c.args.toList with
    | some args => match c.callee with
      | .builtin b => builtinA P H b c.argTypes args
      | .value f => match evF (rdr t) f with
        | some (.fn f cap) => some (.call f (args ++ cap))
        | _ => none
      | .invoke _ _ => none
    | none => none) H kv kc
  cases evsF (rdr t) c.args.toList with
  | none => rfl
  | some args =>
    dsimp only
    cases c.callee with
    | value f =>
      show evK f t (caseFn none (clV3 args kc)) = _
      rw [evK_eq]
      dsimp only
      cases evF (rdr t) f with
      | none => rfl
      | some v =>
        cases v with
        | fn f cap =>
          show clV3 args kc f cap = kc f (args ++ cap)
          cases cap with
          | nil => rw [List.append_nil]; rfl
          | cons _ _ => exact fList_eq _ _
        | _ => rfl
    | invoke r m => rfl
    | builtin b =>
      show clB P b c.argTypes H kv kc args = _
      unfold clB
      cases heapy b with
      | true => exact dgF_eq _ _ _ _
      | false => exact dgP_eq _ _ _ _

abbrev OpK := Tr → Heap → KV → KC → R
def opC (op : Op) : OpK := @Op.casesOn (fun _ => OpK) op xMove xMove (xPick) (xAlloc P) xBox (xBuild P) (xBuildSlice P)
  (fun a b c d => genH P (.insert a b c d)) (xLoad P) (xStore P) (fun g => gen P (.ready g)) (fun g => gen P (.waits g)) (fun x => gen P (.nilCheck x))
  (xBin P) (fun a b c => gen P (.unOp a b c)) (fun a b c => genH P (.convert a b c)) (fun a b => gen P (.sliceToArrayPointer a b)) (fun a b => gen P (.makeInterface a b))
  (fun a b c => gen P (.makeFunc a b c)) (fun a b => genH P (.makeMap a b)) (fun a b => gen P (.makeChan a b)) (fun a b c => genH P (.makeSlice a b c)) (fun a b c d e => gen P (.slice a b c d e))
  (xFieldAddr P) (xField P) (xIndexAddr P) (xIndex P) (fun a b c d => gen P (.lookup a b c d)) (fun a b c d => genH P (.mapUpdate a b c d))
  (fun a b c => gen P (.mapEntry a b c)) (fun a b c d => gen P (.entryStore a b c d)) (fun a b => gen P (.range a b)) (fun a b => gen P (.next a b)) (fun a => gen P (.entry a))
  (fun a b c d => gen P (.typeAssert a b c d)) xExtract (xCall P) (fun a => gen P (.go a)) (fun a => gen P (.defer a)) (fun a => gen P (.panic a)) (fun a b => gen P (.send a b)) (fun a b c => gen P (.recv a b c)) (fun a b => gen P (.select a b))
theorem gen_eq (op : Op) (t : Tr) (H : Heap) (kv : KV) (kc : KC) : gen P op t H kv kc = dg (opE P op (rdr t) H) H kv kc := dgP_eq _ _ _ _
theorem genH_eq (op : Op) (t : Tr) (H : Heap) (kv : KV) (kc : KC) : genH P op t H kv kc = dg (opE P op (rdr t) H) H kv kc := dgF_eq _ _ _ _
theorem opC_eq (op : Op) (t : Tr) (H : Heap) (kv : KV) (kc : KC) : opC P op t H kv kc = dg (opE P op (rdr t) H) H kv kc := by
  cases op with
  | move x => exact xMove_eq x t H kv kc
  | assign x => exact xMove_eq x t H kv kc
  | pick a b c => exact xPick_eq P a b c t H kv kc
  | alloc a => exact xAlloc_eq P a t H kv kc
  | box a b => exact xBox_eq P a b t H kv kc
  | build a b => exact xBuild_eq P a b t H kv kc
  | buildSlice a b c => exact xBuildSlice_eq P a b c t H kv kc
  | load a b => exact xLoad_eq P a b t H kv kc
  | store a b c => exact xStore_eq P a b c t H kv kc
  | binOp a b c d e => exact xBin_eq P a b c d e t H kv kc
  | fieldAddr a b c => exact xFieldAddr_eq P a b c t H kv kc
  | field a b c => exact xField_eq P a b c t H kv kc
  | indexAddr a b c => exact xIndexAddr_eq P a b c t H kv kc
  | index a b c => exact xIndex_eq P a b c t H kv kc
  | extract a b => exact xExtract_eq P a b t H kv kc
  | call a => exact xCall_eq P a t H kv kc
  | insert a b c d => exact genH_eq P _ t H kv kc
  | convert a b c => exact genH_eq P _ t H kv kc
  | makeMap a b => exact genH_eq P _ t H kv kc
  | makeSlice a b c => exact genH_eq P _ t H kv kc
  | mapUpdate a b c d => exact genH_eq P _ t H kv kc
  | _ => exact gen_eq P _ t H kv kc
end
end
end Go.Ab.F
