/- A closed fact of the program, alone: it wants much memory. -/
import Derived.Test.YtmlcaecknocpoaaDoorRows
import Derived.SevenTiedAt
import Derived.KernelRfl
namespace Go.Proofs.YtmlcaecknocpoaaDoor.HH
open Go
theorem mainIs : Tryd.prog.mainIs = some (true, "5e7672824be2eb570f1808abe5f0280c38cb82649d9bb261d524f2f8f472955d".toList) := by kernel_rfl
end Go.Proofs.YtmlcaecknocpoaaDoor.HH
