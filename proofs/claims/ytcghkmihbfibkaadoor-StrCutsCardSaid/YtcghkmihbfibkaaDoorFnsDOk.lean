/- What the functions that StrCuts reaches compute: a part. -/
import Derived.Test.YtcghkmihbfibkaaDoorFnsD
import Derived.Test.YtcghkmihbfibkaaDoorChecked
import Derived.Test.YtcghkmihbfibkaaDoorShelf
set_option linter.all false
namespace Go.Pv.Cb
set_option maxRecDepth 100000
set_option linter.unusedSimpArgs false
open Go.Pv Go.Proofs Go.Shelf
abbrev IG : World → Prop := fun O => Lib.Utf8Tabs (Tryd.laysValid_ren.g 3) (Tryd.laysValid_ren.g 4) O
theorem law6_StrCuts_is : FnIs Tryd.prog F_law6_StrCuts law6_StrCuts := ⟨Tryd.f3, [(14, 10, [0]), (15, 3, [0]), (30, 2, [0]), (40, 4, [0]), (41, 4, [0]), (43, 7, [0]), (45, 8, [0]), (46, 0, [9]), (46, 2, [0]), (46, 12, [0]), (47, 10, [8]), (47, 11, [8])], Tryd.func3, by decide, by kernel_rfl⟩
theorem law6_isAt_is : FnIs Tryd.prog F_law6_isAt law6_isAt := ⟨Tryd.f8, [], Tryd.func8, by decide, by kernel_rfl⟩
theorem law6_known_is : FnIs Tryd.prog F_law6_known law6_known := ⟨Tryd.f6, [(4, 0, [7]), (4, 9, [0]), (5, 10, [0]), (6, 9, [0]), (8, 9, [0])], Tryd.func6, by decide, by kernel_rfl⟩
theorem ref7_Runes_is : FnIs Tryd.prog F_ref7_Runes ref7_Runes := ⟨Tryd.f7, [(34, 3, [0])], Tryd.func7, by decide, by kernel_rfl⟩
theorem str_Get_is : FnIs Tryd.prog F_str_Get str_Get := ⟨Tryd.f9, [(4, 7, [0]), (8, 7, [0]), (12, 7, [0]), (17, 7, [0]), (20, 7, [0]), (22, 3, [0]), (25, 1, [7]), (27, 3, [0])], Tryd.func9, by decide, by kernel_rfl⟩
theorem str_Narrow_is : FnIs Tryd.prog F_str_Narrow str_Narrow := ⟨Tryd.f11, [], Tryd.func11, by decide, by kernel_rfl⟩
theorem str_Put_is : FnIs Tryd.prog F_str_Put str_Put := ⟨Tryd.f14, [(6, 7, [0]), (12, 4, [0]), (14, 5, [0])], Tryd.func14, by decide, by kernel_rfl⟩
theorem str_Size_is : FnIs Tryd.prog F_str_Size str_Size := ⟨Tryd.f12, [], Tryd.func12, by decide, by kernel_rfl⟩
theorem str_Units_is : FnIs Tryd.prog F_str_Units str_Units := ⟨Tryd.f10, [], Tryd.func10, by decide, by kernel_rfl⟩
theorem le_U16_is : FnIs Tryd.prog F_le_U16 le_U16 := ⟨Tryd.f16, [(1, 8, [0]), (2, 5, [0])], Tryd.func16, by decide, by kernel_rfl⟩
theorem le_U8_is : FnIs Tryd.prog F_le_U8 le_U8 := ⟨Tryd.f19, [(1, 8, [0]), (2, 5, [0])], Tryd.func19, by decide, by kernel_rfl⟩
theorem slices_Contains_int_int_is : FnIs Tryd.prog F_slices_Contains_int_int slices_Contains_int_int := ⟨Tryd.f18, [], Tryd.func18, by decide, by kernel_rfl⟩
theorem str_flags_is : FnIs Tryd.prog F_str_flags str_flags := ⟨Tryd.f17, [(1, 7, [0]), (4, 4, [0])], Tryd.func17, by decide, by kernel_rfl⟩
theorem str_text_is : FnIs Tryd.prog F_str_text str_text := ⟨Tryd.f20, [], Tryd.func20, by decide, by kernel_rfl⟩
theorem slices_Clone_byte_byte_is : ExtIs IG Tryd.prog F_slices_Clone_byte_byte (cloneE 1 1) := clone_ok (zero := [.p (.int .u8 0)]) (by kernel_rfl) Tryd.func24 (by decide) (by
  refine ⟨_, _, _, _, _, _, 22, 5, 22, rfl, ?_⟩
  exact ⟨by kernel_rfl, by kernel_rfl, rfl, rfl, rfl, by kernel_rfl, by kernel_rfl, by kernel_rfl, by kernel_rfl, rfl⟩) (by decide)
theorem str_units_is : FnIs Tryd.prog F_str_units str_units := ⟨Tryd.f22, [(6, 4, [0]), (8, 10, [0])], Tryd.func22, by decide, by kernel_rfl⟩
theorem unicode_utf8_ValidString_is : ExtIs IG Tryd.prog F_unicode_utf8_ValidString validE := valid_ok Tryd.laysValid ⟨Tryd.f21, Tryd.func21, by decide, by decide⟩
theorem le_number_is : FnIs Tryd.prog F_le_number le_number := ⟨Tryd.f25, [(1, 9, [0]), (8, 4, [0])], Tryd.func25, by decide, by kernel_rfl⟩
theorem slices_Index_int_int_is : FnIs Tryd.prog F_slices_Index_int_int slices_Index_int_int := ⟨Tryd.f26, [], Tryd.func26, by decide, by kernel_rfl⟩
theorem le_take_is : FnIs Tryd.prog F_le_take le_take := ⟨Tryd.f28, [(5, 10, [7]), (5, 17, [0]), (6, 3, [0])], Tryd.func28, by decide, by kernel_rfl⟩
theorem envOk : EnvOk IG Tryd.prog E := by
  refine tabEnv_ok (by kernel_rfl) ?_ ?_
  · intro p hp
    simp only [progL, List.mem_cons, List.not_mem_nil, or_false] at hp
    rcases hp with rfl | rfl | rfl | rfl | rfl | rfl | rfl | rfl | rfl | rfl | rfl | rfl | rfl | rfl | rfl | rfl | rfl | rfl
    · exact law6_StrCuts_is
    · exact law6_isAt_is
    · exact law6_known_is
    · exact ref7_Runes_is
    · exact str_Get_is
    · exact str_Narrow_is
    · exact str_Put_is
    · exact str_Size_is
    · exact str_Units_is
    · exact le_U16_is
    · exact le_U8_is
    · exact slices_Contains_int_int_is
    · exact str_flags_is
    · exact str_text_is
    · exact str_units_is
    · exact le_number_is
    · exact slices_Index_int_int_is
    · exact le_take_is
  · intro p hp
    simp only [extL, List.mem_cons, List.not_mem_nil, or_false] at hp
    rcases hp with rfl | rfl
    · exact slices_Clone_byte_byte_is
    · exact unicode_utf8_ValidString_is

end Go.Pv.Cb
