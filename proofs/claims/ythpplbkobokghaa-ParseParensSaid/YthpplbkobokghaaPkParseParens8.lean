/- LawParseParens, part 8: whatever the input, the law comes out true: our texts, joined by a tool, without what the claim does not name. -/
import Derived.Test.YthpplbkobokghaaPkParseParens7
set_option maxRecDepth 100000
set_option linter.unusedVariables false
set_option linter.unusedSimpArgs false
set_option maxRecDepth 100000
set_option linter.unusedVariables false
set_option linter.unusedSimpArgs false
namespace Go.Proofs.Ythpplbkobokghaa.Am
open Go
theorem pc0_2 : parI 0 1 41 20 = true := by decide +kernel
theorem pc1_2 : parI 1 1 41 20 = true := by decide +kernel
theorem pc2_2 : parI 2 1 41 20 = true := by decide +kernel
theorem pc3_2 : parI 3 6 41 20 = true := by decide +kernel
theorem pc4_2 : parI 4 5 41 20 = true := by decide +kernel
theorem pc5_2 : parI 5 5 41 20 = true := by decide +kernel
theorem pc6_2 : parI 6 12 41 20 = true := by decide +kernel
theorem pc7_2 : parI 7 11 41 20 = true := by decide +kernel
theorem pc8_2 : parI 8 6 41 20 = true := by decide +kernel
theorem pc9_2 : parI 9 7 41 20 = true := by decide +kernel
theorem pc10_2 : parI 10 7 41 20 = true := by decide +kernel
theorem pc11_2 : parI 11 5 41 20 = true := by decide +kernel
theorem pc12_2 : parI 12 2 41 20 = true := by decide +kernel
theorem pc13_2 : parI 13 3 41 20 = true := by decide +kernel
theorem pc14_2 : parI 14 3 41 20 = true := by decide +kernel
theorem pc15_2 : parI 15 4 41 20 = true := by decide +kernel
theorem pc16_2 : parI 16 4 41 20 = true := by decide +kernel
theorem pc17_2 : parI 17 7 41 20 = true := by decide +kernel
theorem pc18_2 : parI 18 7 41 20 = true := by decide +kernel
theorem pc19_2 : parI 19 9 41 20 = true := by decide +kernel
theorem pc20_2 : parI 20 9 41 20 = true := by decide +kernel
theorem pc21_2 : parI 21 5 41 20 = true := by decide +kernel
theorem pc22_2 : parI 22 6 41 20 = true := by decide +kernel
theorem pc23_2 : parI 23 1 41 20 = true := by decide +kernel
theorem pc24_2 : parI 24 1 41 20 = true := by decide +kernel
end Go.Proofs.Ythpplbkobokghaa.Am
