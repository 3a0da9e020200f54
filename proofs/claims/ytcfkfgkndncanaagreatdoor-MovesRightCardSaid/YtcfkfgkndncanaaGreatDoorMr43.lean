/- Texts of this claim, merged by a program of this claim: Tev. -/
import Derived.Test.YtcfkfgkndncanaaGreatDoorMr11
import Derived.Test.YtcfkfgkndncanaaGreatDoorMr14
import Derived.Test.YtcfkfgkndncanaaGreatDoorMr26
import Derived.Test.YtcfkfgkndncanaaGreatDoorMr37
namespace Go.Proofs.YtcfkfgkndncanaaGreatDoor
set_option linter.unusedVariables false
set_option linter.unusedSimpArgs false
section
open Go.RowKit
set_option maxRecDepth 1000000
def tb18 : List (KR Tryz.prog eqs0) := [.of k_r08_Blank, .of k_r09_Blanks, .of k_r09_Of, .of k_r09_New, .of k_r15_Blank, .of k_l18_column, .of k_grid_fits, .of k_grid_row, .of k_cell_ColorMay, .of k_cell_penMay, .of k_utf_Width, .of k_cell_May, .of k_cell_RowMay, .of k_grid_May, .of k_links_May, .of k_slices_Index_string, .of k_slices_Contains_string, .of k_links_Right, .of k_utf_Valid, .of k_emul_Right, .of k_cell_Blank, .of k_grid_New, .of k_utf_New, .of k_parse_New, .of k_emul_Term_frame, .of k_emul_New, .of k_emul_Term_here, .of k_slices_Clone_Cell, .of k_links_Canon, .of k_emul_Term_Screen, .of k_project_Blank, .of k_wire_Var, .of k_moves_vars, .of k_moves_put, .of k_wire_Text, .of k_slices_Equal_string, .of k_moves_under, .of k_moves_differs, .of k_moves_best, .of k_grid_penMay, .of k_grid_own, .of k_grid_Scroll, .of k_moves_scrolled, .of k_moves_row, .of k_slices_Equal_Cell, .of k_moves_layCopies, .of k_moves_layRuns_1, .of k_moves_layRuns_2, .of k_moves_layRuns, .of k_moves_lay, .of k_moves_Full, .of k_moves_Encode, .of k_r01_Same, .of k_l18_fixed]
def fz18 : List FuncId := [92, 51, 21, 96, 98, 127, 129, 59, 124, 97, 56, 99, 114, 100, 57, 58, 22, 126, 119, 128, 120, 121, 89, 123, 122, 90, 48, 113, 91, 83, 84, 85, 115, 86, 130, 103, 65, 105, 116, 87, 117, 118, 88, 47, 17, 16, 14, 8]
set_option maxHeartbeats 4000000 in
theorem ev18 : (evF E0 (tb18.map KR.r) [] fz18 200 (19 + 1) 8 [] []).map (·.1) = some (.ret (.bool true)) := by kernel_rfl
theorem jk6 : TF Tryz.prog E0 8 [] [] (.ret (.bool true)) [] := Alias.run tb18 _ 200 19 ev18
end
end Go.Proofs.YtcfkfgkndncanaaGreatDoor
