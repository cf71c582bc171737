/- Closed facts. -/
import Derived.Test.YtkapnepkkeaiaaaGreatDoorDT1
import Derived.Test.YtkapnepkkeaiaaaGreatDoorDT2
import Derived.Test.YtkapnepkkeaiaaaGreatDoorDT3
import Derived.Test.YtkapnepkkeaiaaaGreatDoorDT4
import Derived.Test.YtkapnepkkeaiaaaGreatDoorDT5
namespace Go.Proofs.YtkapnepkkeaiaaaGreatDoor
open Go
set_option maxRecDepth 100000
theorem rowsPS : ∀ os tape, laidRowsB Tryz.prog (varsWorld Tryz.prog 400 (varsId Tryz.prog) os tape).memory PS = true := fun os tape => laidRowsB_app (t_r1 os tape) (laidRowsB_app (t_r2 os tape) (laidRowsB_app (t_r3 os tape) (laidRowsB_app (t_r4 os tape) (laidRowsB_app (t_r5 os tape) (laidRowsB_app (t_r6 os tape) (laidRowsB_app (t_r7 os tape) (t_r8 os tape)))))))
theorem tie : Tryz.prog.laidByTextLater L8 K8 true :=
  Program.laidByTextLater_by_run 400 8 t_w t_w' t_root t_k t_g t_n t_d (fun os tape => by rw [t_ps os tape]; rfl)
    (fun os tape => by rw [t_ps os tape, Option.map_some, rowsPS os tape, decide_eq_true (nodupBits_sound nodupPS).1]; rfl)
theorem pin_laid_unicode_utf8_first : Tryz.pinned.checked.prog.pinnedFits "unicode/utf8.first" = true := by kernel_rfl
theorem noOwnUnsafe : Tryz.pinned.checked.prog.headLifts.contains "ownunsafe" = false := by kernel_rfl
theorem fits1 : Tryz.pinned.checked.prog.listedFits [("unicode/utf8.first", Rows.laid_unicode_utf8_first), ("unicode/utf8.acceptRanges", Rows.laid_unicode_utf8_acceptRanges), ("strings.asciiSpace", Rows.laid_strings_asciiSpace), ("unicode.White_Space", Rows.laid_unicode_White_Space), ("strconv.ErrSyntax", Rows.laid_strconv_ErrSyntax), ("strconv.ErrRange", Rows.laid_strconv_ErrRange), ("internal/strconv.uint64pow10", Rows.laid_internal_strconv_uint64pow10), ("math/bits.deBruijn32tab", Rows.laid_math_bits_deBruijn32tab), ("math/bits.deBruijn64tab", Rows.laid_math_bits_deBruijn64tab)] = true := by
  unfold Program.listedFits
  rw [noOwnUnsafe]
  kernel_rfl
theorem driveLines_row_tie : Rows.driveLinesRow.laidByTextAt .later Tryz.pinned [.pinned, .data, .data, .listed, .sentinel, .sentinel, .data, .data, .data] true :=
  OpenClaim.laidByTextAt_pinned rfl rfl tie rfl rfl rfl rfl (fun y hy _e => by
    simp only [Rows.driveLinesRow, List.zip_cons_cons, List.zip_nil_right, List.mem_cons, List.mem_nil_iff, or_false] at hy
    rcases hy with rfl | rfl | rfl | rfl | rfl | rfl | rfl | rfl | rfl
    · exact ⟨pin_laid_unicode_utf8_first, by kernel_rfl⟩
    · cases _e
    · cases _e
    · cases _e
    · cases _e
    · cases _e
    · cases _e
    · cases _e
    · cases _e) fits1
end Go.Proofs.YtkapnepkkeaiaaaGreatDoor
