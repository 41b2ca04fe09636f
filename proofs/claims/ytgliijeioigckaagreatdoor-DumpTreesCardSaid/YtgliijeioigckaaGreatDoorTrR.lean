/- A part of the tie to the program's text: the door's text names each listed variable once, and nothing else writes it. No condition is added. -/
import Derived.Test.YtgliijeioigckaaGreatDoorRows
import Derived.LaidByTextLater
import Derived.SevenTiedAt
set_option linter.unusedVariables false
set_option linter.unusedSimpArgs false
namespace Go.Proofs.YtgliijeioigckaaGreatDoor
open Go
abbrev tieL : List (String × DataW Unit) := [("internal/strconv.uint64pow10", Rows.laid_internal_strconv_uint64pow10), ("math/bits.deBruijn32tab", Rows.laid_math_bits_deBruijn32tab), ("math/bits.deBruijn64tab", Rows.laid_math_bits_deBruijn64tab), ("unicode/utf8.acceptRanges", Rows.laid_unicode_utf8_acceptRanges), ("strconv.ErrSyntax", Rows.laid_strconv_ErrSyntax), ("strconv.ErrRange", Rows.laid_strconv_ErrRange)]
theorem tie_named : varsNamedLaterB Tryz.prog (varsId Tryz.prog) tieL = true := by kernel_rfl
end Go.Proofs.YtgliijeioigckaaGreatDoor
