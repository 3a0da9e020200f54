/- Texts of this claim, merged by a program of this claim: Tev12. -/
import Derived.Test.YtnomaidopdgdbaaGreatDoorMm11
import Derived.Test.YtnomaidopdgdbaaGreatDoorMm15
import Derived.Test.YtnomaidopdgdbaaGreatDoorMm21
import Derived.Test.YtnomaidopdgdbaaGreatDoorMm22
import Derived.Test.YtnomaidopdgdbaaGreatDoorMm23
import Derived.Test.YtnomaidopdgdbaaGreatDoorMm24
import Derived.Test.YtnomaidopdgdbaaGreatDoorMm6
namespace Go.Proofs.YtnomaidopdgdbaaGreatDoor
set_option linter.unusedVariables false
set_option linter.unusedSimpArgs false
section
open Go.RowKit
set_option maxRecDepth 1000000
def ceW : CE := fun args h => match args with
  | [.int .i32 n] => if -2147483648 ≤ n ∧ n ≤ 2147483647 then some (.ret (.int .i64 (Utf.width n)), h) else none
  | _ => none
def ceM : CE := fun args h => match args with
  | [.agg [.int .i32 a, .int .u8 b, .int .u32 c, .int .u32 d, .int .u8 e, .int .u16 f]] => if -2147483648 ≤ a ∧ a ≤ 2147483647 then some (.ret (.bool (mayB ⟨a, b, c, d, e, f⟩)), h) else none
  | _ => none
theorem base_W : Sound Tryz.prog E0 54 (conE ceW) := fun args h G r h' e hG => by
  unfold conE at e
  split at e
  · rename_i r1 h1 e1
    cases e
    unfold ceW at e1
    split at e1
    · rename_i n
      split at e1
      · rename_i hn
        cases e1
        refine (Alias.soundA (ks := [.any]) al_width) [.int .i32 n] h ((True ∧ True) ∧ I32 n ∧ ((([] : List Nat) ++ []).isEmpty && true) = true) _ _ ?_ ⟨⟨trivial, trivial⟩, hn, rfl⟩
        simp only [conA, purL, purV, idf, if_true, sp_width_at]
      · cases e1
    · cases e1
  · cases e
theorem base_M : Sound Tryz.prog E0 167 (conE ceM) := fun args h G r h' e hG => by
  unfold conE at e
  split at e
  · rename_i r1 h1 e1
    cases e
    unfold ceM at e1
    split at e1
    · rename_i a b c d e f
      split at e1
      · rename_i hn
        cases e1
        have hs := sp_cmay_at ⟨a, b, c, d, e, f⟩
        refine (Alias.soundA (ks := [.any]) al_cmay) [cellV ⟨a, b, c, d, e, f⟩] h ((True ∧ True) ∧ I32 a ∧ ((([] : List Nat) ++ []).isEmpty && idf (.bool (mayB ⟨a, b, c, d, e, f⟩))) = true) _ _ ?_ ⟨⟨trivial, trivial⟩, hn, rfl⟩
        have hp : purL h [.any] [cellV ⟨a, b, c, d, e, f⟩] = some (True ∧ True, [cellV ⟨a, b, c, d, e, f⟩], [] ++ []) := rfl
        simp only [conA, hp, hs]
      · cases e1
    · cases e1
  · cases e
def bs12 : List (FuncId × CE) := [(54, ceW), (167, ceM)]
theorem bs12_ok : BaseOk Tryz.prog E0 bs12 := ⟨⟨chkFn_callable k_utf_Width, base_W⟩, ⟨chkFn_callable k_cell_May, base_M⟩, trivial⟩
def tb12 : List (KR Tryz.prog eqs0) := [.of k_grid_fits, .of k_cell_Blank, .of k_grid_New, .of k_utf_New, .of k_parse_New, .of k_emul_Term_frame, .of k_emul_New, .of k_utf_Decoder_End, .of k_parse_prints, .of k_parse_Parser_osc, .of k_utf_Decoder_begin, .of k_utf_Decoder_Feed, .of k_parse_Parser_plain, .of k_parse_Parser_more, .of k_parse_Parser_Feed, .of k_slices_IndexFunc_int, .of k_slices_ContainsFunc_int, .of k_emul_Term_Do_1, .of k_utf_Width, .of k_emul_Term_here, .of k_grid_row, .of k_cell_ColorMay, .of k_cell_penMay, .of k_cell_May, .of k_cell_RowMay, .of k_grid_May, .of k_grid_penMay, .of k_slices_Clone_Cell, .of k_grid_own, .of k_grid_Scroll, .of k_emul_Term_set, .of k_emul_Term_scroll, .of k_emul_Term_down, .of k_cell_own, .of k_cell_cut, .of k_cell_Insert, .of k_grid_Insert_1, .of k_grid_turned, .of k_grid_Insert, .of k_cell_Put, .of k_grid_Put_1, .of k_grid_Put, .of k_emul_Term_print, .of k_links_May, .of k_slices_Clone_string, .of k_slices_Index_string, .of k_emul_Term_Do, .of k_emul_Term_Feed, .of k_links_Canon, .of k_emul_Term_Screen, .of k_slices_Contains_string, .of k_links_Right, .of k_utf_Valid, .of k_emul_Right, .of k_l12_fixed]
def fz12 : List FuncId := [106, 124, 66, 116, 115, 117, 197, 151, 118, 119, 224, 218, 206, 170, 207, 171, 120, 59, 72, 32, 33, 54, 46, 217, 205, 167, 107, 51, 208, 174, 74, 131, 73, 177, 134, 133, 132, 75, 136, 135, 76, 34, 77, 35, 78, 79, 80, 36, 137, 138, 81, 178, 139, 140, 141, 142, 143, 144, 145, 146, 147, 148, 179, 149, 180, 220, 219, 209, 181, 225, 221, 210, 182, 211, 183, 184, 212, 185, 186, 187, 188, 189, 190, 222, 213, 191, 192, 223, 214, 215, 193, 194, 195, 196, 150, 82, 37, 83, 84, 85, 102, 198, 103, 152, 154, 153, 86, 38, 12, 21, 45, 14, 109, 52, 53, 19, 17]
set_option maxHeartbeats 4000000 in
theorem ev12 : (evF E0 (tb12.map KR.r) bs12 fz12 200 (19 + 1) 17 [] []).map (·.1) = some (.ret (.bool true)) := by kernel_rfl
theorem tf_fixed12 : TF Tryz.prog E0 17 [] [] (.ret (.bool true)) [] := by
  obtain ⟨h', t⟩ := TF.run (P := Tryz.prog) (E := E0) (eqs := eqs0) (base := bs12) (fz := fz12) (k := 200) (n := 19) eqs0_ok mixed0 (KR.tab tb12) bs12_ok rfl ev12
  exact t.drop rfl
end
end Go.Proofs.YtnomaidopdgdbaaGreatDoor
