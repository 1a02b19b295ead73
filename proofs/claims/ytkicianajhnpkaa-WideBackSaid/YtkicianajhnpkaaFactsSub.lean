/- What the printed wide.Sub and linhayref02.Sub answer, as arithmetic on Int. -/
import Derived.Test.YtkicianajhnpkaaFactsNum
import Derived.Test.YtkicianajhnpkaaFactsWide
import Derived.Test.YtkicianajhnpkaaFactsRef02
import Derived.Test.YtkicianajhnpkaaPrint11
import Derived.Test.YtkicianajhnpkaaPrint2
namespace Go.Proofs.Ytkicianajhnpkaa.Facts
set_option linter.unusedVariables false
set_option linter.unusedSimpArgs false
open Go.RowKit Go.Proofs.Ytkicianajhnpkaa.Print Go.Proofs.YtkicianajhnpkaaW.PrintWords Go.Proofs.YtkicianajhnpkaaW.PrintLast Go.Proofs.YtkicianajhnpkaaW.PrintMore
theorem wide_Sub_big {a b c d : Int} (ha : W64 a) (hb : W64 b) (hc : W64 c) (hd : W64 d) :
    wide_Sub.f a b c d = some ((a * 18446744073709551616 + b - (c * 18446744073709551616 + d)) / 18446744073709551616 % 18446744073709551616, (a * 18446744073709551616 + b - (c * 18446744073709551616 + d)) % 18446744073709551616, decide (a * 18446744073709551616 + b < c * 18446744073709551616 + d)) := by
  unfold wide_Sub.f; rw [if_pos ⟨⟨ha, hb⟩, ⟨hc, hd⟩⟩]
  obtain ⟨ha, ha'⟩ := ha
  obtain ⟨hb, hb'⟩ := hb
  obtain ⟨hc, hc'⟩ := hc
  obtain ⟨hd, hd'⟩ := hd
  have e1 : (a - c - bor b d) % 18446744073709551616 = (a * 18446744073709551616 + b - (c * 18446744073709551616 + d)) / 18446744073709551616 % 18446744073709551616 := by
    unfold bor; split <;> omega
  have e2 : (b - d) % 18446744073709551616 = (a * 18446744073709551616 + b - (c * 18446744073709551616 + d)) % 18446744073709551616 := by omega
  have e3 : decide (0 < bor a (c + bor b d)) = decide (a * 18446744073709551616 + b < c * 18446744073709551616 + d) := by
    rw [decide_eq_decide]; unfold bor; split <;> split <;> omega
  rw [e1, e2, e3]
theorem ref02_Sub_big (k : Nat) (hk : 1 ≤ k) {a b c d : Int} (ha : W64 a) (hb : W64 b) (hc : W64 c) (hd : W64 d) :
    linhayref02_Sub.f k a b c d = some ((a * 18446744073709551616 + b - (c * 18446744073709551616 + d)) / 18446744073709551616 % 18446744073709551616, (a * 18446744073709551616 + b - (c * 18446744073709551616 + d)) % 18446744073709551616, decide (a * 18446744073709551616 + b < c * 18446744073709551616 + d)) := by
  obtain ⟨ha, ha'⟩ := ha
  obtain ⟨hb, hb'⟩ := hb
  obtain ⟨hc, hc'⟩ := hc
  obtain ⟨hd, hd'⟩ := hd
  unfold linhayref02_Sub.f
  rw [nwr (n := 18446744073709551615 - c) (by omega) (by omega), nwr (n := 18446744073709551615 - d) (by omega) (by omega),
    ref02_Add_eq ha ha' hb hb' (by omega) (by omega) (by omega) (by omega)]
  simp only [Option.bind_some]
  rw [ref02_Add_eq (by omega) (by omega) (by omega) (by omega) (by omega) (by omega) (by omega) (by omega)]
  simp only [Option.bind_some]
  rw [ref02_Cmp_eq k hk hb hb' hd hd']
  simp only [Option.bind_some]
  have e1 : ((a + (18446744073709551615 - c) + (b + (18446744073709551615 - d)) / 18446744073709551616) % 18446744073709551616 + 0 + ((b + (18446744073709551615 - d)) % 18446744073709551616 + 1) / 18446744073709551616) % 18446744073709551616 = (a * 18446744073709551616 + b - (c * 18446744073709551616 + d)) / 18446744073709551616 % 18446744073709551616 := by omega
  have e2 : ((b + (18446744073709551615 - d)) % 18446744073709551616 + 1) % 18446744073709551616 = (a * 18446744073709551616 + b - (c * 18446744073709551616 + d)) % 18446744073709551616 := by omega
  have e3 : decide (scmp (a * 18446744073709551616 + b) (c * 18446744073709551616 + d) < 0) = decide (a * 18446744073709551616 + b < c * 18446744073709551616 + d) := by
    rw [decide_eq_decide]; unfold scmp; split
    · omega
    · split <;> omega
  rw [e1, e2, e3]
end Go.Proofs.Ytkicianajhnpkaa.Facts
