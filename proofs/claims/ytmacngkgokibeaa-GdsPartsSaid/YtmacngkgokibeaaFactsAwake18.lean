
/- The calls that stand at the head of the laws of gds come out as they say. No condition. -/
import Derived.Test.YtmacngkgokibeaaPrint7
namespace Go.Proofs.Ytmacngkgokibeaa.Facts
open Go.Proofs.Ytmacngkgokibeaa.Print
theorem awake18_at : linhaylaw18_awake.f 3000 = some true := by decide +kernel
theorem awake18 (k : Nat) (hk : 3000 ≤ k) : linhaylaw18_awake.f k = some true := Go.Proofs.YtmacngkgokibeaaW.PrintWords.at_rounds (fun k => linhaylaw18_awake.mono k) hk awake18_at
end Go.Proofs.Ytmacngkgokibeaa.Facts
