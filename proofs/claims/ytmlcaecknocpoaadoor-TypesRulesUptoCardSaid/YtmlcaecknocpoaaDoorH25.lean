/- A closed fact of the program, alone: it wants much memory. -/
import Derived.Test.YtmlcaecknocpoaaDoorRows
import Derived.JoinedOf
import Derived.JoinedCond
import Derived.KernelRfl
namespace Go.Proofs.YtmlcaecknocpoaaDoor.HH
open Go
set_option linter.unusedVariables false
theorem h25 : (fun (P : Program) (f : FuncId) (fn : Func) (s : ChangeSpec) (c : OpenClaim) => (P.mayEnter : Bool)) Tryd.prog 3 Tryd.f3 (Rows.OpenSpec.upto Rows.formCheckSpecSpec).bare Rows.formCheckSpecUptoRow = true := by kernel_rfl
end Go.Proofs.YtmlcaecknocpoaaDoor.HH
