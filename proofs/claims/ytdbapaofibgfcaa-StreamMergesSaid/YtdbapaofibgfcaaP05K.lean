/- Layer 5: the contracts of the laws that compare with the reference. -/
import Derived.Test.YtdbapaofibgfcaaP05D
import Derived.Test.YtdbapaofibgfcaaH05D
set_option linter.unusedVariables false
namespace Go.Proofs.Ytdbapaofibgfcaa
open Go.RowKit
theorem checks_con05 (l : List T_api_Event) : Con E0 true 3 [.sl 5 (l.map e_api_Event)] (.bool true) := con_tidegatelaw05_StreamChecks (law_checks05 l)
theorem finds_con05 (l : List T_api_Event) (r : T_api_Ref) : Con E0 true 4 [.sl 5 (l.map e_api_Event), e_api_Ref r] (.bool true) := con_tidegatelaw05_StreamFinds (law_finds05 l r)
theorem slices_con05 (l : List T_api_Event) (a b : Int) : Con E0 true 5 [.sl 5 (l.map e_api_Event), aI a, aI b] (.bool true) := con_tidegatelaw05_StreamSlices (law_slices05 l a b)
theorem merges_con05 (a b : List T_api_Event) (e : T_api_Event) : Con E0 true 8 [.sl 5 (a.map e_api_Event), .sl 5 (b.map e_api_Event), e_api_Event e] (.bool true) := con_tidegatelaw05_StreamMerges (law_merges05 a b e)
end Go.Proofs.Ytdbapaofibgfcaa
