/- What the functions that ExprRefs reaches compute: a part. -/
import Derived.Test.YtfckadoadmdgjaaDoorFnsX
import Derived.Test.YtfckadoadmdgjaaDoorChecked
import Derived.Test.YtfckadoadmdgjaaDoorShelf
import Derived.Test.YtfckadoadmdgjaaDoorIter
import Derived.Test.YtfckadoadmdgjaaDoorMaker
set_option linter.all false
namespace Go.Pv.Cb
set_option linter.unusedSimpArgs false
set_option maxRecDepth 100000
open Go.Pv Go.Proofs Go.Shelf
abbrev IG : World → Prop := fun O => Lib.Utf8Tabs (Tryd.laysValid_ren.g 3) (Tryd.laysValid_ren.g 4) O
theorem makersOk : MakersOk Tryd.prog := makers_one back_maker (by kernel_rfl)
theorem law10_ExprRefs_is : FnIs Tryd.prog F_law10_ExprRefs law10_ExprRefs := ⟨Tryd.f6, [(11, 6, [0]), (12, 1, [7]), (12, 3, [0]), (13, 3, [0])], Tryd.func6, by decide, by kernel_rfl⟩
theorem expr_Refs_is : FnIs Tryd.prog F_expr_Refs expr_Refs := ⟨Tryd.f13, [(6, 1, [7]), (7, 3, [0])], Tryd.func13, by decide, by kernel_rfl⟩
theorem expr_Same_is : FnIs Tryd.prog F_expr_Same expr_Same := ⟨Tryd.f21, [], Tryd.func21, by decide, by kernel_rfl⟩
theorem law10_Few_is : FnIs Tryd.prog F_law10_Few law10_Few := ⟨Tryd.f11, [], Tryd.func11, by decide, by kernel_rfl⟩
theorem law10_To_is : FnIs Tryd.prog F_law10_To law10_To := ⟨Tryd.f12, [(1, 14, [0]), (5, 9, [0]), (5, 11, [0]), (6, 1, [0])], Tryd.func12, by decide, by kernel_rfl⟩
theorem law10_known_is : FnIs Tryd.prog F_law10_known law10_known := ⟨Tryd.f10, [(1, 7, [0]), (3, 0, [7])], Tryd.func10, by decide, by kernel_rfl⟩
theorem expr_within_is : FnIs Tryd.prog F_expr_within expr_within := ⟨Tryd.f47, [], Tryd.func47, by decide, by kernel_rfl⟩
theorem expr_Same_1_is : FnIs Tryd.prog F_expr_Same_1 expr_Same_1 := ⟨Tryd.f54, [], Tryd.func54, by decide, by kernel_rfl⟩
theorem expr_walk_is : FnIs Tryd.prog F_expr_walk expr_walk := ⟨Tryd.f48, [(2, 4, [0]), (5, 5, [7]), (7, 1, [7]), (7, 3, [0]), (8, 3, [10]), (1000000, 33, [3, 4, 5]), (9, 1, [0]), (10, 7, [0]), (10, 8, [0])], Tryd.func48, by decide, by kernel_rfl⟩
theorem slices_EqualFunc_expr_node_expr_node_expr_node_expr_node_is : FnIs Tryd.prog F_slices_EqualFunc_expr_node_expr_node_expr_node_expr_node slices_EqualFunc_expr_node_expr_node_expr_node_expr_node := ⟨Tryd.f53, [(5, 2, [7]), (6, 3, [7]), (7, 3, [0, 1])], Tryd.func53, by decide, by kernel_rfl⟩
theorem law10_few_is : FnIs Tryd.prog F_law10_few law10_few := ⟨Tryd.f44, [(1, 6, [0])], Tryd.func44, by decide, by kernel_rfl⟩
theorem law8_ToArea_is : FnIs Tryd.prog F_law8_ToArea law8_ToArea := ⟨Tryd.f46, [(1, 7, [0])], Tryd.func46, by decide, by kernel_rfl⟩
theorem law9_To_is : FnIs Tryd.prog F_law9_To law9_To := ⟨Tryd.f45, [(1, 12, [0])], Tryd.func45, by decide, by kernel_rfl⟩
theorem expr_Check_is : FnIs Tryd.prog F_expr_Check expr_Check := ⟨Tryd.f15, [(8, 1, [7])], Tryd.func15, by decide, by kernel_rfl⟩
theorem expr_Count_is : FnIs Tryd.prog F_expr_Count expr_Count := ⟨Tryd.f19, [], Tryd.func19, by decide, by kernel_rfl⟩
theorem expr_Depth_is : FnIs Tryd.prog F_expr_Depth expr_Depth := ⟨Tryd.f17, [(4, 1, [7])], Tryd.func17, by decide, by kernel_rfl⟩
theorem law10_At_is : FnIs Tryd.prog F_law10_At law10_At := ⟨Tryd.f40, [(1, 5, [0])], Tryd.func40, by decide, by kernel_rfl⟩
theorem law10_Bin_is : FnIs Tryd.prog F_law10_Bin law10_Bin := ⟨Tryd.f39, [(1, 5, [0])], Tryd.func39, by decide, by kernel_rfl⟩
theorem law10_Call_is : FnIs Tryd.prog F_law10_Call law10_Call := ⟨Tryd.f41, [(1, 3, [0])], Tryd.func41, by decide, by kernel_rfl⟩
theorem law10_Span_is : FnIs Tryd.prog F_law10_Span law10_Span := ⟨Tryd.f42, [(1, 8, [0])], Tryd.func42, by decide, by kernel_rfl⟩
theorem law10_nest_is : FnIs Tryd.prog F_law10_nest law10_nest := ⟨Tryd.f43, [(1, 2, [0]), (5, 0, [7]), (5, 3, [0]), (6, 1, [0])], Tryd.func43, by decide, by kernel_rfl⟩
theorem law8_To_is : FnIs Tryd.prog F_law8_To law8_To := ⟨Tryd.f83, [(1, 9, [0])], Tryd.func83, by decide, by kernel_rfl⟩
theorem law4_To_is : FnIs Tryd.prog F_law4_To law4_To := ⟨Tryd.f82, [(1, 5, [0])], Tryd.func82, by decide, by kernel_rfl⟩
theorem expr_Check_1_is : FnIs Tryd.prog F_expr_Check_1 expr_Check_1 := ⟨Tryd.f50, [], Tryd.func50, by decide, by kernel_rfl⟩
theorem expr_part_is : FnIs Tryd.prog F_expr_part expr_part := ⟨Tryd.f51, [], Tryd.func51, by decide, by kernel_rfl⟩
theorem slices_ContainsFunc_expr_node_expr_node_is : FnIs Tryd.prog F_slices_ContainsFunc_expr_node_expr_node slices_ContainsFunc_expr_node_expr_node := ⟨Tryd.f49, [], Tryd.func49, by decide, by kernel_rfl⟩
theorem law10_Num_is : FnIs Tryd.prog F_law10_Num law10_Num := ⟨Tryd.f81, [(1, 3, [0])], Tryd.func81, by decide, by kernel_rfl⟩
theorem expr_alone_is : FnIs Tryd.prog F_expr_alone expr_alone := ⟨Tryd.f86, [(1, 3, [0])], Tryd.func86, by decide, by kernel_rfl⟩
theorem expr_counts_is : FnIs Tryd.prog F_expr_counts expr_counts := ⟨Tryd.f88, [], Tryd.func88, by decide, by kernel_rfl⟩
theorem ref_CheckArea_is : FnIs Tryd.prog F_ref_CheckArea ref_CheckArea := ⟨Tryd.f87, [], Tryd.func87, by decide, by kernel_rfl⟩
theorem val_Check_is : FnIs Tryd.prog F_val_Check val_Check := ⟨Tryd.f32, [], Tryd.func32, by decide, by kernel_rfl⟩
theorem slices_IndexFunc_expr_node_expr_node_is : FnIs Tryd.prog F_slices_IndexFunc_expr_node_expr_node slices_IndexFunc_expr_node_expr_node := ⟨Tryd.f85, [], Tryd.func85, by decide, by kernel_rfl⟩
theorem law9_N_is : FnIs Tryd.prog F_law9_N law9_N := ⟨Tryd.f25, [(1, 3, [0])], Tryd.func25, by decide, by kernel_rfl⟩
theorem expr_own_is : FnIs Tryd.prog F_expr_own expr_own := ⟨Tryd.f104, [(1, 4, [0]), (6, 3, [0]), (7, 1, [0]), (9, 5, [0]), (10, 1, [0]), (12, 3, [0]), (13, 1, [0]), (15, 7, [0]), (15, 9, [0]), (16, 1, [0]), (18, 5, [0]), (18, 7, [0]), (19, 1, [0]), (21, 3, [0]), (22, 1, [0]), (26, 5, [0]), (27, 1, [0]), (3, 3, [0]), (4, 1, [0])], Tryd.func104, by decide, by kernel_rfl⟩
theorem ref_Check_is : FnIs Tryd.prog F_ref_Check ref_Check := ⟨Tryd.f105, [], Tryd.func105, by decide, by kernel_rfl⟩
theorem dec_Check_is : FnIs Tryd.prog F_dec_Check dec_Check := ⟨Tryd.f70, [], Tryd.func70, by decide, by kernel_rfl⟩
theorem str_Units_is : FnIs Tryd.prog F_str_Units str_Units := ⟨Tryd.f71, [], Tryd.func71, by decide, by kernel_rfl⟩
theorem val_name_is : FnIs Tryd.prog F_val_name val_name := ⟨Tryd.f72, [], Tryd.func72, by decide, by kernel_rfl⟩
theorem val_own_is : FnIs Tryd.prog F_val_own val_own := ⟨Tryd.f69, [(3, 3, [0]), (5, 3, [0]), (7, 3, [0]), (9, 3, [0]), (10, 3, [0])], Tryd.func69, by decide, by kernel_rfl⟩
theorem dec_Int_is : FnIs Tryd.prog F_dec_Int dec_Int := ⟨Tryd.f58, [(1, 2, [0])], Tryd.func58, by decide, by kernel_rfl⟩
theorem ref_Good_is : FnIs Tryd.prog F_ref_Good ref_Good := ⟨Tryd.f93, [], Tryd.func93, by decide, by kernel_rfl⟩
theorem str_units_is : FnIs Tryd.prog F_str_units str_units := ⟨Tryd.f99, [(6, 4, [0]), (8, 10, [0])], Tryd.func99, by decide, by kernel_rfl⟩
theorem unicode_utf8_ValidString_is : ExtIs IG Tryd.prog F_unicode_utf8_ValidString validE := valid_ok Tryd.laysValid ⟨Tryd.f98, Tryd.func98, by decide, by decide⟩
theorem val_Fault_is : FnIs Tryd.prog F_val_Fault val_Fault := ⟨Tryd.f57, [(1, 2, [0])], Tryd.func57, by decide, by kernel_rfl⟩
theorem envOk : EnvOk IG Tryd.prog E := by
  refine tabEnvI_ok (by kernel_rfl) makersOk ?_ ?_ ?_
  · intro p hp
    simp only [progL, List.mem_cons, List.not_mem_nil, or_false] at hp
    rcases hp with rfl | rfl | rfl | rfl | rfl | rfl | rfl | rfl | rfl | rfl | rfl | rfl | rfl | rfl | rfl | rfl | rfl | rfl | rfl | rfl | rfl | rfl | rfl | rfl | rfl | rfl | rfl | rfl | rfl | rfl | rfl | rfl | rfl | rfl | rfl | rfl | rfl | rfl | rfl | rfl | rfl | rfl | rfl
    · exact law10_ExprRefs_is
    · exact expr_Refs_is
    · exact expr_Same_is
    · exact law10_Few_is
    · exact law10_To_is
    · exact law10_known_is
    · exact expr_within_is
    · exact expr_Same_1_is
    · exact expr_walk_is
    · exact slices_EqualFunc_expr_node_expr_node_expr_node_expr_node_is
    · exact law10_few_is
    · exact law8_ToArea_is
    · exact law9_To_is
    · exact expr_Check_is
    · exact expr_Count_is
    · exact expr_Depth_is
    · exact law10_At_is
    · exact law10_Bin_is
    · exact law10_Call_is
    · exact law10_Span_is
    · exact law10_nest_is
    · exact law8_To_is
    · exact law4_To_is
    · exact expr_Check_1_is
    · exact expr_part_is
    · exact slices_ContainsFunc_expr_node_expr_node_is
    · exact law10_Num_is
    · exact expr_alone_is
    · exact expr_counts_is
    · exact ref_CheckArea_is
    · exact val_Check_is
    · exact slices_IndexFunc_expr_node_expr_node_is
    · exact law9_N_is
    · exact expr_own_is
    · exact ref_Check_is
    · exact dec_Check_is
    · exact str_Units_is
    · exact val_name_is
    · exact val_own_is
    · exact dec_Int_is
    · exact ref_Good_is
    · exact str_units_is
    · exact val_Fault_is
  · intro p hp
    simp only [extL, List.mem_cons, List.not_mem_nil, or_false] at hp
    rcases hp with rfl
    · exact unicode_utf8_ValidString_is
  · intro p hp
    simp only [itL, List.mem_cons, List.not_mem_nil, or_false] at hp
    rcases hp with rfl
    · exact back_iter
end Go.Pv.Cb
