/- LawParseParens, part 7: whatever the input, the law comes out true: our texts, joined by a tool, without what the claim does not name. -/
import Derived.Test.YthpplbkobokghaaPkParseParens6
set_option maxRecDepth 100000
set_option linter.unusedVariables false
set_option linter.unusedSimpArgs false
set_option maxRecDepth 100000
set_option linter.unusedVariables false
set_option linter.unusedSimpArgs false
namespace Go.Proofs.Ythpplbkobokghaa.Am
open Go
theorem pc0_1 : parI 0 1 21 20 = true := by decide +kernel
theorem pc1_1 : parI 1 1 21 20 = true := by decide +kernel
theorem pc2_1 : parI 2 1 21 20 = true := by decide +kernel
theorem pc3_1 : parI 3 6 21 20 = true := by decide +kernel
theorem pc4_1 : parI 4 5 21 20 = true := by decide +kernel
theorem pc5_1 : parI 5 5 21 20 = true := by decide +kernel
theorem pc6_1 : parI 6 12 21 20 = true := by decide +kernel
theorem pc7_1 : parI 7 11 21 20 = true := by decide +kernel
theorem pc8_1 : parI 8 6 21 20 = true := by decide +kernel
theorem pc9_1 : parI 9 7 21 20 = true := by decide +kernel
theorem pc10_1 : parI 10 7 21 20 = true := by decide +kernel
theorem pc11_1 : parI 11 5 21 20 = true := by decide +kernel
theorem pc12_1 : parI 12 2 21 20 = true := by decide +kernel
theorem pc13_1 : parI 13 3 21 20 = true := by decide +kernel
theorem pc14_1 : parI 14 3 21 20 = true := by decide +kernel
theorem pc15_1 : parI 15 4 21 20 = true := by decide +kernel
theorem pc16_1 : parI 16 4 21 20 = true := by decide +kernel
theorem pc17_1 : parI 17 7 21 20 = true := by decide +kernel
theorem pc18_1 : parI 18 7 21 20 = true := by decide +kernel
theorem pc19_1 : parI 19 9 21 20 = true := by decide +kernel
theorem pc20_1 : parI 20 9 21 20 = true := by decide +kernel
theorem pc21_1 : parI 21 5 21 20 = true := by decide +kernel
theorem pc22_1 : parI 22 6 21 20 = true := by decide +kernel
theorem pc23_1 : parI 23 1 21 20 = true := by decide +kernel
theorem pc24_1 : parI 24 1 21 20 = true := by decide +kernel
end Go.Proofs.Ythpplbkobokghaa.Am
