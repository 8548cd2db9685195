/- slices.Sorted(maps.Keys(m)) at a map[int]bool, off the kit's shelf. -/
import Derived.Test.YtlfjjapndlkamaaCtBelowShelf
namespace Go.Proofs
open Go.RowKit Go.Maps Go.Sort Go.Shelf
set_option linter.unusedVariables false
set_option linter.unusedSimpArgs false
end Go.Proofs
