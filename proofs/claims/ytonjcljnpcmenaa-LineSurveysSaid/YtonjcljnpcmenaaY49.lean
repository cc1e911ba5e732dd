/- Contracts: wide numbers, made and multiplied. No conditions on a program. -/
import Derived.Test.YtonjcljnpcmenaaM8
namespace Go.Proofs.Ytonjcljnpcmenaa
open Go Go.RowKit Go.Proofs
set_option linter.unusedSimpArgs false
set_option linter.unusedVariables false
end Go.Proofs.Ytonjcljnpcmenaa
