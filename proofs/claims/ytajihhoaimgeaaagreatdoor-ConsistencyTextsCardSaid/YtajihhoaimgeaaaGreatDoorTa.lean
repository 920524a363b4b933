/- Laws for a tie to the program's text: places without a repetition, rows of cells that bear no interface value. -/
import Derived.LaidByTextLater
import Derived.Test.YtajihhoaimgeaaaGreatDoorRows
import Derived.SevenTiedAt
set_option linter.unusedVariables false
set_option linter.unusedSimpArgs false
set_option linter.unusedSectionVars false
set_option linter.unnecessarySimpa false
namespace Go.Ab
open Go
set_option linter.unusedVariables false
/-- No number twice, by a set of bits. -/
def noTwice : List Nat → Nat → Bool
  | [], _ => true
  | k :: l, s => !(s.testBit k) && noTwice l (s ||| 2 ^ k)
theorem noTwice_ok : ∀ (l : List Nat) (s : Nat), noTwice l s = true → l.Nodup ∧ ∀ k, k ∈ l → s.testBit k = false
  | [], s, _ => ⟨List.nodup_nil, fun k hk => by cases hk⟩
  | k :: l, s, h => by
    simp only [noTwice, Bool.and_eq_true, Bool.not_eq_true'] at h
    obtain ⟨h1, h2⟩ := noTwice_ok l _ h.2
    have hk : ∀ j, (s ||| 2 ^ k).testBit j = (s.testBit j || decide (k = j)) := fun j => by rw [Nat.testBit_or, Nat.testBit_two_pow]
    refine ⟨List.nodup_cons.2 ⟨fun hm => ?_, h1⟩, fun j hj => ?_⟩
    · have := h2 k hm
      rw [hk] at this
      simp at this
    · rcases List.mem_cons.1 hj with rfl | hj
      · exact h.1
      · have := h2 j hj
        rw [hk] at this
        simp only [Bool.or_eq_false_iff] at this
        exact this.1
def placeKey : MemPlace → Nat
  | .cell b off => 2 * (b * 512 + off)
  | .map b => 2 * b + 1
theorem nodup_places {ps : List MemPlace} (h : noTwice (ps.map placeKey) 0 = true) : ps.Nodup := by
  have h1 := (noTwice_ok _ _ h).1
  unfold List.Nodup at h1 ⊢
  rw [List.pairwise_map] at h1
  exact h1.imp fun hne e => hne (congrArg placeKey e)

def notIface : Value → Bool
  | .iface _ _ => false
  | _ => true
def plainBlock : Option Obj → Bool
  | some (.cells vs _ (0, 0)) => vs.toList.all notIface
  | _ => false
theorem rows_plain {P : Program} {w : World} {g n : Nat} (h : plainBlock (w.heap[g]?) = true) : laidRowsB P w (MemPlace.row ⟨g, 0, none⟩ n) = true := by
  unfold plainBlock at h
  split at h <;> try (cases h; done)
  rename_i vs t hh
  unfold laidRowsB MemPlace.row
  rw [List.all_eq_true]
  intro p hp
  obtain ⟨i, _, rfl⟩ := List.mem_map.1 hp
  dsimp only
  rw [hh]
  simp only [Bool.true_and]
  split
  · rename_i u v hc
    unfold World.cell? at hc
    rw [hh] at hc
    simp only [Option.isSome_none, Bool.false_eq_true, if_false] at hc
    have hm := Array.mem_of_getElem? hc
    have := List.all_eq_true.1 h _ (Array.mem_def.1 hm)
    cases this
  · rfl
theorem rows_append {P : Program} {w : World} {a b : List MemPlace} (h1 : laidRowsB P w a = true) (h2 : laidRowsB P w b = true) : laidRowsB P w (a ++ b) = true := by
  unfold laidRowsB at *
  rw [List.all_append, h1, h2]
  rfl
end Go.Ab

/- What the program's text lays in the listed variables: the closed facts of its words, names and kinds, one by one. -/
namespace Go.Proofs.YtajihhoaimgeaaaGreatDoor
open Go
def laidL : List (String × DataW Unit) := [("internal/strconv.uint64pow10", Rows.laid_internal_strconv_uint64pow10), ("math/bits.deBruijn32tab", Rows.laid_math_bits_deBruijn32tab), ("math/bits.deBruijn64tab", Rows.laid_math_bits_deBruijn64tab), ("unicode/utf8.acceptRanges", Rows.laid_unicode_utf8_acceptRanges), ("strconv.ErrSyntax", Rows.laid_strconv_ErrSyntax), ("strconv.ErrRange", Rows.laid_strconv_ErrRange), ("strings.asciiSpace", Rows.laid_strings_asciiSpace), ("unicode.White_Space", Rows.laid_unicode_White_Space)]
def kindsL : List LaidKind := [.data, .data, .data, .data, .sentinel, .sentinel, .data, .listed]
theorem tie1 : Tryz.prog.worded (varsWordLater true) = true := by kernel_rfl
theorem tie2 : Tryz.prog.worded (varsWordLater !true) = false := by kernel_rfl
theorem tie3 : Tryz.prog.worded rootWordLater = true := by kernel_rfl
theorem tie4 : laidL.map (fun x => Tryz.prog.kindOfLater x.1) = kindsL.map some := by kernel_rfl
theorem tie5 : (Tryz.prog.funcNamed "gosem.cut.vars").isSome = true := by kernel_rfl
theorem tie6 : varsNamedLaterB Tryz.prog (varsId Tryz.prog) laidL = true := by kernel_rfl
end Go.Proofs.YtajihhoaimgeaaaGreatDoor
