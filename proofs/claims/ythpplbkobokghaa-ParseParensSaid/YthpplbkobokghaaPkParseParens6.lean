/- LawParseParens, part 6: whatever the input, the law comes out true: our texts, joined by a tool, without what the claim does not name. -/
import Derived.Test.YthpplbkobokghaaPkParseParens5
set_option maxRecDepth 100000
set_option linter.unusedVariables false
set_option linter.unusedSimpArgs false
set_option maxRecDepth 100000
set_option linter.unusedVariables false
set_option linter.unusedSimpArgs false
namespace Go.Proofs.Ythpplbkobokghaa.Am
open Go
theorem pc0_0 : parI 0 1 0 21 = true := by decide +kernel
theorem pc1_0 : parI 1 1 0 21 = true := by decide +kernel
theorem pc2_0 : parI 2 1 0 21 = true := by decide +kernel
theorem pc3_0 : parI 3 6 0 21 = true := by decide +kernel
theorem pc4_0 : parI 4 5 0 21 = true := by decide +kernel
theorem pc5_0 : parI 5 5 0 21 = true := by decide +kernel
theorem pc6_0 : parI 6 12 0 21 = true := by decide +kernel
theorem pc7_0 : parI 7 11 0 21 = true := by decide +kernel
theorem pc8_0 : parI 8 6 0 21 = true := by decide +kernel
theorem pc9_0 : parI 9 7 0 21 = true := by decide +kernel
theorem pc10_0 : parI 10 7 0 21 = true := by decide +kernel
theorem pc11_0 : parI 11 5 0 21 = true := by decide +kernel
theorem pc12_0 : parI 12 2 0 21 = true := by decide +kernel
theorem pc13_0 : parI 13 3 0 21 = true := by decide +kernel
theorem pc14_0 : parI 14 3 0 21 = true := by decide +kernel
theorem pc15_0 : parI 15 4 0 21 = true := by decide +kernel
theorem pc16_0 : parI 16 4 0 21 = true := by decide +kernel
theorem pc17_0 : parI 17 7 0 21 = true := by decide +kernel
theorem pc18_0 : parI 18 7 0 21 = true := by decide +kernel
theorem pc19_0 : parI 19 9 0 21 = true := by decide +kernel
theorem pc20_0 : parI 20 9 0 21 = true := by decide +kernel
theorem pc21_0 : parI 21 5 0 21 = true := by decide +kernel
theorem pc22_0 : parI 22 6 0 21 = true := by decide +kernel
theorem pc23_0 : parI 23 1 0 21 = true := by decide +kernel
theorem pc24_0 : parI 24 1 0 21 = true := by decide +kernel
end Go.Proofs.Ythpplbkobokghaa.Am
