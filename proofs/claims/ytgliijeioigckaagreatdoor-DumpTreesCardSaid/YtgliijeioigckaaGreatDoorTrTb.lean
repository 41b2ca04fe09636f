/- A part of the tie to the program's text. No condition is added. -/
import Derived.Test.YtgliijeioigckaaGreatDoorRows
import Derived.LaidByTextLater
import Derived.SevenTiedAt
set_option linter.unusedVariables false
set_option linter.unusedSimpArgs false
namespace Go.Proofs.YtgliijeioigckaaGreatDoor
open Go
theorem pin_first : Tryz.prog.pinnedFits "unicode/utf8.first" = true := by kernel_rfl
theorem noOwn : Tryz.prog.headLifts.contains "ownunsafe" = false := by kernel_rfl
theorem tie_fits : Tryz.pinned.checked.prog.listedFits [("internal/strconv.uint64pow10", Rows.laid_internal_strconv_uint64pow10), ("math/bits.deBruijn32tab", Rows.laid_math_bits_deBruijn32tab), ("math/bits.deBruijn64tab", Rows.laid_math_bits_deBruijn64tab), ("unicode/utf8.first", Rows.laid_unicode_utf8_first), ("unicode/utf8.acceptRanges", Rows.laid_unicode_utf8_acceptRanges), ("strconv.ErrSyntax", Rows.laid_strconv_ErrSyntax), ("strconv.ErrRange", Rows.laid_strconv_ErrRange)] = true := by
  show Tryz.prog.listedFits _ = true
  unfold Program.listedFits
  rw [noOwn]
  kernel_rfl
end Go.Proofs.YtgliijeioigckaaGreatDoor
