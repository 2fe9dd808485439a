/- Chapter 36: the contracts of the seven laws. -/
import Derived.Test.YthhnhajldhnfmaaP36
import Derived.Test.YthhnhajldhnfmaaH36D
set_option linter.unusedVariables false
set_option linter.unusedSimpArgs false
namespace Go.Proofs.Ythhnhajldhnfmaa
open Go.RowKit

theorem looks_con36 (l : List Trk) : Con E0 true 9 [.sl 4 (l.map aTrk)] (.bool true) := con_tidegatelaw36_WatermarkLooks (law_looks l)
theorem receives_con36 (l : List Trk) (m : T_api_Message) : Con E0 true 8 [.sl 4 (l.map aTrk), e_api_Message m] (.bool true) := con_tidegatelaw36_WatermarkReceives (law_receives l m)
theorem runs_con36 (k : Int) (l : List T_api_Message) : Con E0 true 10 [aI k, .sl 9 (l.map e_api_Message)] (.bool true) := con_tidegatelaw36_WatermarkRuns (law_runs k l)
theorem commutes_con36 (l : List T_api_Message) (b : List Int) (hb : ∀ x ∈ b, 0 ≤ x ∧ x < 256) : Con E0 true 11 [.sl 9 (l.map e_api_Message), .sl 1 (b.map (AV.int .u8))] (.bool true) := con_tidegatelaw36_WatermarkCommutes (law_commutes l b hb)
theorem completes_con36 (l : List T_api_Message) (b : Nat) (hb : b ≤ 255) : Con E0 true 12 [.sl 9 (l.map e_api_Message), .int .u8 b] (.bool true) := con_tidegatelaw36_WatermarkCompletes (law_completes l b (by omega) (by omega))
theorem fills_con36 (l : List T_api_Message) : Con E0 true 13 [.sl 9 (l.map e_api_Message)] (.bool true) := con_tidegatelaw36_WatermarkFills (law_fills l)
theorem separates_con36 (l : List T_api_Message) (m : T_api_Message) : Con E0 true 14 [.sl 9 (l.map e_api_Message), e_api_Message m] (.bool true) := con_tidegatelaw36_WatermarkSeparates (law_separates l m)
end Go.Proofs.Ythhnhajldhnfmaa
