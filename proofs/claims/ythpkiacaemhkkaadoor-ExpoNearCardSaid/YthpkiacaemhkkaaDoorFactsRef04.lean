
/- What the printed functions of the package linhayref04 answer (Of, Div, Mul, Whole, Part, Mix). -/
import Derived.Test.YthpkiacaemhkkaaDoorFactsNum
import Derived.Test.YthpkiacaemhkkaaDoorFactsWide
import Derived.Test.YthpkiacaemhkkaaDoorFactsRef02
import Derived.Test.YthpkiacaemhkkaaDoorFactsFloor
import Derived.Test.YthpkiacaemhkkaaDoorFactsRef03
import Derived.Test.YthpkiacaemhkkaaDoorFactsFixed
import Derived.Test.YthpkiacaemhkkaaDoorFactsMix
import Derived.Test.YthpkiacaemhkkaaDoorPrint4
namespace Go.Proofs.YthpkiacaemhkkaaDoor.Facts
set_option linter.unusedVariables false
set_option linter.unusedSimpArgs false
open Go.RowKit Go.Proofs.YthpkiacaemhkkaaDoor.Print Go.Proofs.YthpkiacaemhkkaaDoorW.PrintWords Go.Proofs.YthpkiacaemhkkaaDoorW.PrintLast Go.Proofs.YthpkiacaemhkkaaDoorW.PrintMore
theorem ref04_Of_eq (k : Nat) (hk : 65 ≤ k) {a b : Int} (ha : W64 a) (hb : W64 b) : linhayref04_Of.f k a b = some (floorR a 4294967296 b) := by
  unfold linhayref04_Of.f; rw [ref03_Floor_eq k hk ha W64_one hb]; rfl
end Go.Proofs.YthpkiacaemhkkaaDoor.Facts
