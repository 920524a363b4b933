/- What the program's text lays in the listed variables: the rows of cells. -/
import Derived.Test.YtajihhoaimgeaaaGreatDoorTb
set_option linter.unusedVariables false
set_option linter.unusedSimpArgs false
set_option linter.unusedSectionVars false
set_option linter.unnecessarySimpa false
namespace Go.Proofs.YtajihhoaimgeaaaGreatDoor
open Go
theorem blocks_ok : ∀ os tape, [0, 2, 3, 11, 4, 20].all (fun g => Ab.plainBlock ((varsWorld Tryz.prog 400 (varsId Tryz.prog) os tape).memory.heap[g]?)) = true := fun _ _ => by kernel_rfl
theorem restL_ok : ∀ os tape, laidRowsB Tryz.prog (varsWorld Tryz.prog 400 (varsId Tryz.prog) os tape).memory restL = true := fun _ _ => by kernel_rfl
theorem restM_ok : ∀ os tape, laidRowsB Tryz.prog (varsWorld Tryz.prog 400 (varsId Tryz.prog) os tape).memory restM = true := fun _ _ => by kernel_rfl
theorem rows_ok (os : Os) (tape : Tape) : laidRowsB Tryz.prog (varsWorld Tryz.prog 400 (varsId Tryz.prog) os tape).memory placesL = true := by
  have h := List.all_eq_true.1 (blocks_ok os tape)
  exact Ab.rows_append (Ab.rows_plain (h 0 (by simp))) (Ab.rows_append (Ab.rows_plain (h 2 (by simp))) (Ab.rows_append (Ab.rows_plain (h 3 (by simp))) (Ab.rows_append (Ab.rows_plain (h 11 (by simp)))
    (Ab.rows_append (restL_ok os tape) (Ab.rows_append (Ab.rows_plain (h 4 (by simp))) (Ab.rows_append (restM_ok os tape) (Ab.rows_plain (h 20 (by simp)))))))))
theorem tie : Tryz.prog.laidByTextLater laidL kindsL true := Program.laidByTextLater_by_run 400 8 tie1 tie2 tie3 tie4 tie5 tie6 tie7 (fun os tape => by rw [tie8]; rfl)
  (fun os tape => by
    rw [tie8, Option.map_some]
    show some (decide placesL.Nodup && laidRowsB Tryz.prog (varsWorld Tryz.prog 400 (varsId Tryz.prog) os tape).memory placesL) = some true
    rw [decide_eq_true places_ok, rows_ok]
    rfl)
end Go.Proofs.YtajihhoaimgeaaaGreatDoor

/- The row's tie to the program's text. -/
namespace Go.Proofs.YtajihhoaimgeaaaGreatDoor
open Go
theorem pin_first : Tryz.pinned.checked.prog.pinnedFits "unicode/utf8.first" = true := by kernel_rfl
theorem noOwnUnsafe1 : Tryz.pinned.checked.prog.headLifts.contains "ownunsafe" = false := by kernel_rfl
theorem fits2 : Tryz.pinned.checked.prog.listedFits [("internal/strconv.uint64pow10", Rows.laid_internal_strconv_uint64pow10), ("math/bits.deBruijn32tab", Rows.laid_math_bits_deBruijn32tab), ("math/bits.deBruijn64tab", Rows.laid_math_bits_deBruijn64tab), ("unicode/utf8.first", Rows.laid_unicode_utf8_first), ("unicode/utf8.acceptRanges", Rows.laid_unicode_utf8_acceptRanges), ("strconv.ErrSyntax", Rows.laid_strconv_ErrSyntax), ("strconv.ErrRange", Rows.laid_strconv_ErrRange), ("strings.asciiSpace", Rows.laid_strings_asciiSpace), ("unicode.White_Space", Rows.laid_unicode_White_Space)] = true := by
  unfold Program.listedFits
  rw [noOwnUnsafe1]
  kernel_rfl
theorem row_tie : Rows.consistencyTextsRow.laidByTextAt .later Tryz.pinned [.data, .data, .data, .pinned, .data, .sentinel, .sentinel, .data, .listed] true :=
  OpenClaim.laidByTextAt_pinned rfl rfl tie rfl rfl rfl rfl (fun y hy _e => by
    simp only [Rows.consistencyTextsRow, List.zip_cons_cons, List.zip_nil_right, List.mem_cons, List.mem_nil_iff, or_false] at hy
    rcases hy with rfl | rfl | rfl | rfl | rfl | rfl | rfl | rfl | rfl
    · cases _e
    · cases _e
    · cases _e
    · exact ⟨pin_first, by kernel_rfl⟩
    · cases _e
    · cases _e
    · cases _e
    · cases _e
    · cases _e) fits2
end Go.Proofs.YtajihhoaimgeaaaGreatDoor
