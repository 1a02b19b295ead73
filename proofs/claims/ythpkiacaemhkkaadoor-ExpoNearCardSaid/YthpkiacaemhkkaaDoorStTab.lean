/- The table of the package-level variable that the rows of this seat list lies as the program's text lays it. Written by a program of this session (wip/tools/cardrow.py). No condition. -/
import Derived.Test.YthpkiacaemhkkaaDoorRows
import Derived.Test.YthpkiacaemhkkaaDoorPrint1
import Derived.Lib.LaidTab
import Derived.LaidMore
import Derived.ProofKit
namespace Go.Proofs.YthpkiacaemhkkaaDoor.Print
open Go.ChangeShapes Go.WideShapes Go.ChangeAt Go.WideMaps Go.WideElems Go.RowKit
set_option maxRecDepth 100000
theorem gTab : Tryd.prog.globalNamed "linhay/expo.powers" = some 0 := by kernel_rfl
theorem gTabType : (Tryd.prog.globals[0]?).map (·.type) = some 42 := by kernel_rfl
theorem tab_of_laid {W : World} (h : laidMetH Tryd.prog [("linhay/expo.powers", Rows.laid_linhay_expo_powers)] W) : Tab W := by
  rw [MakeChecks.laidMetH_plain _ _ _ (by kernel_rfl)] at h
  have e : (Rows.laid_linhay_expo_powers : DataW Unit) = Lib.tabData .u64 pw := rfl
  rw [e] at h
  have hT := Lib.tabIs_of_head gTab gTabType Tryd.underlying42 Tryd.underlying22 (by kernel_rfl) (by kernel_rfl) h
  intro i hi
  exact hT.cell gTab i hi
end Go.Proofs.YthpkiacaemhkkaaDoor.Print
