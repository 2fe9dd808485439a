/- Layer 5: the contracts of the laws that are independent of the reference. -/
import Derived.Test.YtdbapaofibgfcaaP05E
import Derived.Test.YtdbapaofibgfcaaH05D
set_option linter.unusedVariables false
namespace Go.Proofs.Ytdbapaofibgfcaa
open Go.RowKit
theorem unites_con05 (a b c : List T_api_Event) : Con E0 true 6 [.sl 5 (a.map e_api_Event), .sl 5 (b.map e_api_Event), .sl 5 (c.map e_api_Event)] (.bool true) := con_tidegatelaw05_StreamUnites (law_unites05 a b c)
theorem disorders_con05 (l : List T_api_Event) (a : Nat) (h : a ≤ 255) : Con E0 true 7 [.sl 5 (l.map e_api_Event), .int .u8 a] (.bool true) := con_tidegatelaw05_StreamDisorders (law_disorders05 l a h)
end Go.Proofs.Ytdbapaofibgfcaa
