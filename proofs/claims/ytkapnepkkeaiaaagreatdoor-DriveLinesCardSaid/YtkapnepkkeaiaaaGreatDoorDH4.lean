/- Closed facts. -/
import Derived.Test.YtkapnepkkeaiaaaGreatDoorDH00
namespace Go.Proofs.YtkapnepkkeaiaaaGreatDoor
open Go
set_option maxRecDepth 100000
theorem f_named : (["unicode/utf8.first", "unicode/utf8.acceptRanges", "internal/bytealg.MaxLen", "strings.asciiSpace", "unicode.White_Space", "strconv.ErrSyntax", "strconv.ErrRange", "internal/strconv.uint64pow10", "math/bits.deBruijn32tab", "math/bits.deBruijn64tab"] == Tryz.prog.varsNamed 3) = true := by
  have h : Tryz.prog.varsNamed 3 = ["unicode/utf8.first", "unicode/utf8.acceptRanges", "internal/bytealg.MaxLen", "strings.asciiSpace", "unicode.White_Space", "strconv.ErrSyntax", "strconv.ErrRange", "internal/strconv.uint64pow10", "math/bits.deBruijn32tab", "math/bits.deBruijn64tab"] := by
    unfold Program.varsNamed
    rw [closure3]
    kernel_rfl
  exact beq_iff_eq.2 h.symm
end Go.Proofs.YtkapnepkkeaiaaaGreatDoor
