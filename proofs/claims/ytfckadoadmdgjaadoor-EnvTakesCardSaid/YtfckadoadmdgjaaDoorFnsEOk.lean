/- What the functions that EnvTakes reaches compute: a part. -/
import Derived.Test.YtfckadoadmdgjaaDoorFnsX
import Derived.Test.YtfckadoadmdgjaaDoorChecked
import Derived.Test.YtfckadoadmdgjaaDoorShelf
import Derived.Test.YtfckadoadmdgjaaDoorIter
import Derived.Test.YtfckadoadmdgjaaDoorMaker
import Derived.Test.YtfckadoadmdgjaaDoorInsOk
set_option linter.all false
namespace Go.Pv.Cb
set_option linter.unusedSimpArgs false
set_option maxRecDepth 100000
open Go.Pv Go.Proofs Go.Shelf
abbrev IG : World → Prop := fun O => Lib.Utf8Tabs (Tryd.laysValid_ren.g 3) (Tryd.laysValid_ren.g 4) O
theorem makersOk : MakersOk Tryd.prog := makers_one back_maker (by kernel_rfl)
theorem clr60 : CloneRaw Tryd.prog 60 9 80 := clone_raw2 (t := 58) (e := 72) Tryd.func60 (by decide) ⟨_, _, _, _, _, _, _, _, _, _, _, _, _, _, _, _, _, _, _, _, _, rfl⟩ rfl rfl (by kernel_rfl) (by kernel_rfl)
theorem libOk : LibOk Tryd.prog := ⟨makersOk, clonersOk [(60, 9, 80)] (by
  intro p hp
  simp only [List.mem_cons, List.not_mem_nil, or_false] at hp
  rcases hp with rfl
  · exact clr60
  ) (by kernel_rfl)⟩
theorem law14_EnvTakes_is : FnIs Tryd.prog F_law14_EnvTakes law14_EnvTakes := ⟨Tryd.f8, [(5, 3, [0]), (6, 4, [0]), (7, 5, [0]), (8, 5, [0]), (9, 5, [0])], Tryd.func8, by decide, by kernel_rfl⟩
theorem env_Get_is : FnIs Tryd.prog F_env_Get env_Get := ⟨Tryd.f28, [(2, 1, [0]), (5, 6, [0]), (6, 1, [0])], Tryd.func28, by decide, by kernel_rfl⟩
theorem env_Put_is : FnIs Tryd.prog F_env_Put env_Put := ⟨Tryd.f26, [(4, 4, [0]), (6, 5, [0]), (8, 6, [0, 2]), (9, 2, [0]), (10, 1, [0])], Tryd.func26, by decide, by kernel_rfl⟩
theorem env_Same_is : FnIs Tryd.prog F_env_Same env_Same := ⟨Tryd.f36, [], Tryd.func36, by decide, by kernel_rfl⟩
theorem law14_Few_is : FnIs Tryd.prog F_law14_Few law14_Few := ⟨Tryd.f30, [], Tryd.func30, by decide, by kernel_rfl⟩
theorem law14_OfPlace_is : FnIs Tryd.prog F_law14_OfPlace law14_OfPlace := ⟨Tryd.f34, [(1, 6, [0])], Tryd.func34, by decide, by kernel_rfl⟩
theorem law14_To_is : FnIs Tryd.prog F_law14_To law14_To := ⟨Tryd.f35, [(1, 7, [0]), (5, 18, [0]), (5, 20, [0]), (6, 1, [0])], Tryd.func35, by decide, by kernel_rfl⟩
theorem law14_known_is : FnIs Tryd.prog F_law14_known law14_known := ⟨Tryd.f24, [(1, 2, [0]), (2, 5, [0]), (3, 5, [0]), (4, 5, [0])], Tryd.func24, by decide, by kernel_rfl⟩
theorem law9_Of_is : FnIs Tryd.prog F_law9_Of law9_Of := ⟨Tryd.f37, [(1, 12, [0])], Tryd.func37, by decide, by kernel_rfl⟩
theorem ref18_CheckEnv_is : FnIs Tryd.prog F_ref18_CheckEnv ref18_CheckEnv := ⟨Tryd.f31, [(8, 6, [0])], Tryd.func31, by decide, by kernel_rfl⟩
theorem ref18_GoodPlace_is : FnIs Tryd.prog F_ref18_GoodPlace ref18_GoodPlace := ⟨Tryd.f33, [], Tryd.func33, by decide, by kernel_rfl⟩
theorem val_Check_is : FnIs Tryd.prog F_val_Check val_Check := ⟨Tryd.f32, [], Tryd.func32, by decide, by kernel_rfl⟩
theorem env_find_is : FnIs Tryd.prog F_env_find env_find := ⟨Tryd.f59, [], Tryd.func59, by decide, by kernel_rfl⟩
theorem env_good_is : FnIs Tryd.prog F_env_good env_good := ⟨Tryd.f63, [], Tryd.func63, by decide, by kernel_rfl⟩
theorem val_Fault_is : FnIs Tryd.prog F_val_Fault val_Fault := ⟨Tryd.f57, [(1, 2, [0])], Tryd.func57, by decide, by kernel_rfl⟩
theorem slices_Clone_env_Slot_env_Slot_is : ExtIs IG Tryd.prog F_slices_Clone_env_Slot_env_Slot (cloneE 9 80) := clone_ok clr60
theorem slices_Delete_env_Slot_env_Slot_is : ExtIs IG Tryd.prog F_slices_Delete_env_Slot_env_Slot delE := del_ok' ⟨Tryd.f61, Tryd.func61, by decide, by decide⟩ (by kernel_rfl)
theorem slices_Insert_env_Slot_env_Slot_is : ExtIs IG Tryd.prog F_slices_Insert_env_Slot_env_Slot insE := ins_ok' ⟨Tryd.f62, Tryd.func62, by decide, by decide⟩ (by kernel_rfl)
theorem expr_Same_is : FnIs Tryd.prog F_expr_Same expr_Same := ⟨Tryd.f21, [], Tryd.func21, by decide, by kernel_rfl⟩
theorem slices_EqualFunc_expr_Expr_expr_Expr_expr_Expr_expr_Expr_is : FnIs Tryd.prog F_slices_EqualFunc_expr_Expr_expr_Expr_expr_Expr_expr_Expr slices_EqualFunc_expr_Expr_expr_Expr_expr_Expr_expr_Expr := ⟨Tryd.f78, [(5, 2, [7]), (6, 3, [7]), (7, 3, [0, 1])], Tryd.func78, by decide, by kernel_rfl⟩
theorem slices_Equal_env_Slot_env_Slot_is : FnIs Tryd.prog F_slices_Equal_env_Slot_env_Slot slices_Equal_env_Slot_env_Slot := ⟨Tryd.f77, [], Tryd.func77, by decide, by kernel_rfl⟩
theorem law10_Few_is : FnIs Tryd.prog F_law10_Few law10_Few := ⟨Tryd.f11, [], Tryd.func11, by decide, by kernel_rfl⟩
theorem law8_OfCell_is : FnIs Tryd.prog F_law8_OfCell law8_OfCell := ⟨Tryd.f74, [(1, 5, [0])], Tryd.func74, by decide, by kernel_rfl⟩
theorem law10_ToAll_is : FnIs Tryd.prog F_law10_ToAll law10_ToAll := ⟨Tryd.f75, [(5, 7, [0])], Tryd.func75, by decide, by kernel_rfl⟩
theorem law14_ToPlace_is : FnIs Tryd.prog F_law14_ToPlace law14_ToPlace := ⟨Tryd.f76, [(1, 6, [0])], Tryd.func76, by decide, by kernel_rfl⟩
theorem law9_To_is : FnIs Tryd.prog F_law9_To law9_To := ⟨Tryd.f45, [(1, 12, [0])], Tryd.func45, by decide, by kernel_rfl⟩
theorem env_Check_is : FnIs Tryd.prog F_env_Check env_Check := ⟨Tryd.f29, [(7, 5, [0]), (20, 1, [7])], Tryd.func29, by decide, by kernel_rfl⟩
theorem env_Less_is : FnIs Tryd.prog F_env_Less env_Less := ⟨Tryd.f38, [], Tryd.func38, by decide, by kernel_rfl⟩
theorem law14_P_is : FnIs Tryd.prog F_law14_P law14_P := ⟨Tryd.f27, [(1, 5, [0])], Tryd.func27, by decide, by kernel_rfl⟩
theorem law9_N_is : FnIs Tryd.prog F_law9_N law9_N := ⟨Tryd.f25, [(1, 3, [0])], Tryd.func25, by decide, by kernel_rfl⟩
theorem law9_S_is : FnIs Tryd.prog F_law9_S law9_S := ⟨Tryd.f56, [(1, 2, [0])], Tryd.func56, by decide, by kernel_rfl⟩
theorem law4_Of_is : FnIs Tryd.prog F_law4_Of law4_Of := ⟨Tryd.f79, [(1, 5, [0])], Tryd.func79, by decide, by kernel_rfl⟩
theorem ref13_CheckExpr_is : FnIs Tryd.prog F_ref13_CheckExpr ref13_CheckExpr := ⟨Tryd.f16, [], Tryd.func16, by decide, by kernel_rfl⟩
theorem ref13_CheckVal_is : FnIs Tryd.prog F_ref13_CheckVal ref13_CheckVal := ⟨Tryd.f66, [], Tryd.func66, by decide, by kernel_rfl⟩
theorem ref18_Less_is : FnIs Tryd.prog F_ref18_Less ref18_Less := ⟨Tryd.f67, [], Tryd.func67, by decide, by kernel_rfl⟩
theorem ref18_named_is : FnIs Tryd.prog F_ref18_named ref18_named := ⟨Tryd.f68, [], Tryd.func68, by decide, by kernel_rfl⟩
theorem ref13_Good_is : FnIs Tryd.prog F_ref13_Good ref13_Good := ⟨Tryd.f73, [], Tryd.func73, by decide, by kernel_rfl⟩
theorem dec_Check_is : FnIs Tryd.prog F_dec_Check dec_Check := ⟨Tryd.f70, [], Tryd.func70, by decide, by kernel_rfl⟩
theorem str_Units_is : FnIs Tryd.prog F_str_Units str_Units := ⟨Tryd.f71, [], Tryd.func71, by decide, by kernel_rfl⟩
theorem val_name_is : FnIs Tryd.prog F_val_name val_name := ⟨Tryd.f72, [], Tryd.func72, by decide, by kernel_rfl⟩
theorem val_own_is : FnIs Tryd.prog F_val_own val_own := ⟨Tryd.f69, [(3, 3, [0]), (5, 3, [0]), (7, 3, [0]), (9, 3, [0]), (10, 3, [0])], Tryd.func69, by decide, by kernel_rfl⟩
theorem ref_Good_is : FnIs Tryd.prog F_ref_Good ref_Good := ⟨Tryd.f93, [], Tryd.func93, by decide, by kernel_rfl⟩
theorem expr_Same_1_is : FnIs Tryd.prog F_expr_Same_1 expr_Same_1 := ⟨Tryd.f54, [], Tryd.func54, by decide, by kernel_rfl⟩
theorem expr_walk_is : FnIs Tryd.prog F_expr_walk expr_walk := ⟨Tryd.f48, [(2, 4, [0]), (5, 5, [7]), (6, 5, [0]), (7, 1, [7]), (7, 3, [0]), (8, 3, [10]), (1000000, 33, [3, 4, 5]), (9, 1, [0]), (10, 7, [0]), (10, 8, [0])], Tryd.func48, by decide, by kernel_rfl⟩
theorem slices_EqualFunc_expr_node_expr_node_expr_node_expr_node_is : FnIs Tryd.prog F_slices_EqualFunc_expr_node_expr_node_expr_node_expr_node slices_EqualFunc_expr_node_expr_node_expr_node_expr_node := ⟨Tryd.f53, [(5, 2, [7]), (6, 3, [7]), (7, 3, [0, 1])], Tryd.func53, by decide, by kernel_rfl⟩
theorem law10_few_is : FnIs Tryd.prog F_law10_few law10_few := ⟨Tryd.f44, [(1, 6, [0])], Tryd.func44, by decide, by kernel_rfl⟩
theorem law10_To_is : FnIs Tryd.prog F_law10_To law10_To := ⟨Tryd.f12, [(1, 14, [0]), (5, 9, [0]), (5, 11, [0]), (6, 1, [0])], Tryd.func12, by decide, by kernel_rfl⟩
theorem law8_ToCell_is : FnIs Tryd.prog F_law8_ToCell law8_ToCell := ⟨Tryd.f100, [(1, 5, [0])], Tryd.func100, by decide, by kernel_rfl⟩
theorem law4_To_is : FnIs Tryd.prog F_law4_To law4_To := ⟨Tryd.f82, [(1, 5, [0])], Tryd.func82, by decide, by kernel_rfl⟩
theorem env_Check_1_is : FnIs Tryd.prog F_env_Check_1 env_Check_1 := ⟨Tryd.f65, [], Tryd.func65, by decide, by kernel_rfl⟩
theorem expr_Check_is : FnIs Tryd.prog F_expr_Check expr_Check := ⟨Tryd.f15, [(8, 1, [7])], Tryd.func15, by decide, by kernel_rfl⟩
theorem expr_Refs_is : FnIs Tryd.prog F_expr_Refs expr_Refs := ⟨Tryd.f13, [(6, 1, [7]), (7, 3, [0])], Tryd.func13, by decide, by kernel_rfl⟩
theorem slices_ContainsFunc_expr_Expr_expr_Expr_is : FnIs Tryd.prog F_slices_ContainsFunc_expr_Expr_expr_Expr slices_ContainsFunc_expr_Expr_expr_Expr := ⟨Tryd.f64, [], Tryd.func64, by decide, by kernel_rfl⟩
theorem env_order_is : FnIs Tryd.prog F_env_order env_order := ⟨Tryd.f80, [], Tryd.func80, by decide, by kernel_rfl⟩
theorem dec_Int_is : FnIs Tryd.prog F_dec_Int dec_Int := ⟨Tryd.f58, [(1, 2, [0])], Tryd.func58, by decide, by kernel_rfl⟩
theorem ref13_Count_is : FnIs Tryd.prog F_ref13_Count ref13_Count := ⟨Tryd.f20, [], Tryd.func20, by decide, by kernel_rfl⟩
theorem ref13_Depth_is : FnIs Tryd.prog F_ref13_Depth ref13_Depth := ⟨Tryd.f18, [], Tryd.func18, by decide, by kernel_rfl⟩
theorem ref13_nodes_is : FnIs Tryd.prog F_ref13_nodes ref13_nodes := ⟨Tryd.f52, [], Tryd.func52, by decide, by kernel_rfl⟩
theorem ref13_ErrText_is : FnIs Tryd.prog F_ref13_ErrText ref13_ErrText := ⟨Tryd.f97, [], Tryd.func97, by decide, by kernel_rfl⟩
theorem ref7_CheckDec_is : FnIs Tryd.prog F_ref7_CheckDec ref7_CheckDec := ⟨Tryd.f95, [], Tryd.func95, by decide, by kernel_rfl⟩
theorem ref7_Units_is : FnIs Tryd.prog F_ref7_Units ref7_Units := ⟨Tryd.f96, [], Tryd.func96, by decide, by kernel_rfl⟩
theorem ref13_Refs_is : FnIs Tryd.prog F_ref13_Refs ref13_Refs := ⟨Tryd.f14, [(7, 7, [0])], Tryd.func14, by decide, by kernel_rfl⟩
theorem str_units_is : FnIs Tryd.prog F_str_units str_units := ⟨Tryd.f99, [(6, 4, [0]), (8, 10, [0])], Tryd.func99, by decide, by kernel_rfl⟩
theorem unicode_utf8_ValidString_is : ExtIs IG Tryd.prog F_unicode_utf8_ValidString validE := valid_ok Tryd.laysValid ⟨Tryd.f98, Tryd.func98, by decide, by decide⟩
theorem law8_ToArea_is : FnIs Tryd.prog F_law8_ToArea law8_ToArea := ⟨Tryd.f46, [(1, 7, [0])], Tryd.func46, by decide, by kernel_rfl⟩
theorem expr_Check_1_is : FnIs Tryd.prog F_expr_Check_1 expr_Check_1 := ⟨Tryd.f50, [], Tryd.func50, by decide, by kernel_rfl⟩
theorem expr_part_is : FnIs Tryd.prog F_expr_part expr_part := ⟨Tryd.f51, [], Tryd.func51, by decide, by kernel_rfl⟩
theorem slices_ContainsFunc_expr_node_expr_node_is : FnIs Tryd.prog F_slices_ContainsFunc_expr_node_expr_node slices_ContainsFunc_expr_node_expr_node := ⟨Tryd.f49, [], Tryd.func49, by decide, by kernel_rfl⟩
theorem expr_within_is : FnIs Tryd.prog F_expr_within expr_within := ⟨Tryd.f47, [], Tryd.func47, by decide, by kernel_rfl⟩
theorem slices_IndexFunc_expr_Expr_expr_Expr_is : FnIs Tryd.prog F_slices_IndexFunc_expr_Expr_expr_Expr slices_IndexFunc_expr_Expr_expr_Expr := ⟨Tryd.f94, [], Tryd.func94, by decide, by kernel_rfl⟩
theorem cmp_Compare_int_is : FnIs Tryd.prog F_cmp_Compare_int cmp_Compare_int := ⟨Tryd.f102, [], Tryd.func102, by decide, by kernel_rfl⟩
theorem cmp_Or_int_is : FnIs Tryd.prog F_cmp_Or_int cmp_Or_int := ⟨Tryd.f101, [], Tryd.func101, by decide, by kernel_rfl⟩
theorem ref13_node_is : FnIs Tryd.prog F_ref13_node ref13_node := ⟨Tryd.f89, [], Tryd.func89, by decide, by kernel_rfl⟩
theorem ref7_Runes_is : FnIs Tryd.prog F_ref7_Runes ref7_Runes := ⟨Tryd.f109, [(34, 3, [0])], Tryd.func109, by decide, by kernel_rfl⟩
theorem ref7_units_is : FnIs Tryd.prog F_ref7_units ref7_units := ⟨Tryd.f110, [(6, 6, [0]), (8, 8, [0])], Tryd.func110, by decide, by kernel_rfl⟩
theorem law8_To_is : FnIs Tryd.prog F_law8_To law8_To := ⟨Tryd.f83, [(1, 9, [0])], Tryd.func83, by decide, by kernel_rfl⟩
theorem expr_alone_is : FnIs Tryd.prog F_expr_alone expr_alone := ⟨Tryd.f86, [(1, 3, [0])], Tryd.func86, by decide, by kernel_rfl⟩
theorem expr_counts_is : FnIs Tryd.prog F_expr_counts expr_counts := ⟨Tryd.f88, [], Tryd.func88, by decide, by kernel_rfl⟩
theorem ref_CheckArea_is : FnIs Tryd.prog F_ref_CheckArea ref_CheckArea := ⟨Tryd.f87, [], Tryd.func87, by decide, by kernel_rfl⟩
theorem slices_IndexFunc_expr_node_expr_node_is : FnIs Tryd.prog F_slices_IndexFunc_expr_node_expr_node slices_IndexFunc_expr_node_expr_node := ⟨Tryd.f85, [], Tryd.func85, by decide, by kernel_rfl⟩
theorem cmp_isNaN_int_is : FnIs Tryd.prog F_cmp_isNaN_int cmp_isNaN_int := ⟨Tryd.f112, [], Tryd.func112, by decide, by kernel_rfl⟩
theorem ref13_CheckArea_is : FnIs Tryd.prog F_ref13_CheckArea ref13_CheckArea := ⟨Tryd.f107, [], Tryd.func107, by decide, by kernel_rfl⟩
theorem ref13_shape_is : FnIs Tryd.prog F_ref13_shape ref13_shape := ⟨Tryd.f106, [], Tryd.func106, by decide, by kernel_rfl⟩
theorem expr_own_is : FnIs Tryd.prog F_expr_own expr_own := ⟨Tryd.f104, [(1, 4, [0]), (6, 3, [0]), (7, 1, [0]), (9, 5, [0]), (10, 1, [0]), (12, 3, [0]), (13, 1, [0]), (15, 7, [0]), (15, 9, [0]), (16, 1, [0]), (18, 5, [0]), (18, 7, [0]), (19, 1, [0]), (21, 3, [0]), (22, 1, [0]), (26, 5, [0]), (27, 1, [0]), (3, 3, [0]), (4, 1, [0])], Tryd.func104, by decide, by kernel_rfl⟩
theorem ref_Check_is : FnIs Tryd.prog F_ref_Check ref_Check := ⟨Tryd.f105, [], Tryd.func105, by decide, by kernel_rfl⟩
theorem ref13_CheckRef_is : FnIs Tryd.prog F_ref13_CheckRef ref13_CheckRef := ⟨Tryd.f113, [], Tryd.func113, by decide, by kernel_rfl⟩
theorem envOk : EnvOk IG Tryd.prog E := by
  refine tabEnvI_ok (by kernel_rfl) libOk ?_ ?_ ?_
  · intro p hp
    simp only [progL, List.mem_cons, List.not_mem_nil, or_false] at hp
    rcases hp with rfl | rfl | rfl | rfl | rfl | rfl | rfl | rfl | rfl | rfl | rfl | rfl | rfl | rfl | rfl | rfl | rfl | rfl | rfl | rfl | rfl | rfl | rfl | rfl | rfl | rfl | rfl | rfl | rfl | rfl | rfl | rfl | rfl | rfl | rfl | rfl | rfl | rfl | rfl | rfl | rfl | rfl | rfl | rfl | rfl | rfl | rfl | rfl | rfl | rfl | rfl | rfl | rfl | rfl | rfl | rfl | rfl | rfl | rfl | rfl | rfl | rfl | rfl | rfl | rfl | rfl | rfl | rfl | rfl | rfl | rfl | rfl | rfl | rfl | rfl | rfl | rfl | rfl | rfl | rfl | rfl | rfl
    · exact law14_EnvTakes_is
    · exact env_Get_is
    · exact env_Put_is
    · exact env_Same_is
    · exact law14_Few_is
    · exact law14_OfPlace_is
    · exact law14_To_is
    · exact law14_known_is
    · exact law9_Of_is
    · exact ref18_CheckEnv_is
    · exact ref18_GoodPlace_is
    · exact val_Check_is
    · exact env_find_is
    · exact env_good_is
    · exact val_Fault_is
    · exact expr_Same_is
    · exact slices_EqualFunc_expr_Expr_expr_Expr_expr_Expr_expr_Expr_is
    · exact slices_Equal_env_Slot_env_Slot_is
    · exact law10_Few_is
    · exact law8_OfCell_is
    · exact law10_ToAll_is
    · exact law14_ToPlace_is
    · exact law9_To_is
    · exact env_Check_is
    · exact env_Less_is
    · exact law14_P_is
    · exact law9_N_is
    · exact law9_S_is
    · exact law4_Of_is
    · exact ref13_CheckExpr_is
    · exact ref13_CheckVal_is
    · exact ref18_Less_is
    · exact ref18_named_is
    · exact ref13_Good_is
    · exact dec_Check_is
    · exact str_Units_is
    · exact val_name_is
    · exact val_own_is
    · exact ref_Good_is
    · exact expr_Same_1_is
    · exact expr_walk_is
    · exact slices_EqualFunc_expr_node_expr_node_expr_node_expr_node_is
    · exact law10_few_is
    · exact law10_To_is
    · exact law8_ToCell_is
    · exact law4_To_is
    · exact env_Check_1_is
    · exact expr_Check_is
    · exact expr_Refs_is
    · exact slices_ContainsFunc_expr_Expr_expr_Expr_is
    · exact env_order_is
    · exact dec_Int_is
    · exact ref13_Count_is
    · exact ref13_Depth_is
    · exact ref13_nodes_is
    · exact ref13_ErrText_is
    · exact ref7_CheckDec_is
    · exact ref7_Units_is
    · exact ref13_Refs_is
    · exact str_units_is
    · exact law8_ToArea_is
    · exact expr_Check_1_is
    · exact expr_part_is
    · exact slices_ContainsFunc_expr_node_expr_node_is
    · exact expr_within_is
    · exact slices_IndexFunc_expr_Expr_expr_Expr_is
    · exact cmp_Compare_int_is
    · exact cmp_Or_int_is
    · exact ref13_node_is
    · exact ref7_Runes_is
    · exact ref7_units_is
    · exact law8_To_is
    · exact expr_alone_is
    · exact expr_counts_is
    · exact ref_CheckArea_is
    · exact slices_IndexFunc_expr_node_expr_node_is
    · exact cmp_isNaN_int_is
    · exact ref13_CheckArea_is
    · exact ref13_shape_is
    · exact expr_own_is
    · exact ref_Check_is
    · exact ref13_CheckRef_is
  · intro p hp
    simp only [extL, List.mem_cons, List.not_mem_nil, or_false] at hp
    rcases hp with rfl | rfl | rfl | rfl
    · exact slices_Clone_env_Slot_env_Slot_is
    · exact slices_Delete_env_Slot_env_Slot_is
    · exact slices_Insert_env_Slot_env_Slot_is
    · exact unicode_utf8_ValidString_is
  · intro p hp
    simp only [itL, List.mem_cons, List.not_mem_nil, or_false] at hp
    rcases hp with rfl
    · exact back_iter
end Go.Pv.Cb
