/- What the functions that RecFronts reaches compute: a part. -/
import Derived.Test.YtcghkmihbfibkaaFns
import Derived.Test.YtcghkmihbfibkaaChecked
set_option linter.all false
namespace Go.Pv.Cb
set_option maxRecDepth 100000
set_option linter.unusedSimpArgs false
open Go.Pv Go.Proofs
theorem law1_RecFronts_is : FnIs Try.prog F_law1_RecFronts law1_RecFronts := ⟨Try.f8, [], Try.func8, by decide, by kernel_rfl⟩
theorem law1_SameAll_is : FnIs Try.prog F_law1_SameAll law1_SameAll := ⟨Try.f17, [], Try.func17, by decide, by kernel_rfl⟩
theorem law1_ToAll_is : FnIs Try.prog F_law1_ToAll law1_ToAll := ⟨Try.f13, [(5, 7, [0])], Try.func13, by decide, by kernel_rfl⟩
theorem law1_known_is : FnIs Try.prog F_law1_known law1_known := ⟨Try.f20, [(10, 4, [0])], Try.func20, by decide, by kernel_rfl⟩
theorem rec_Read_is : FnIs Try.prog F_rec_Read rec_Read := ⟨Try.f30, [(13, 3, [0]), (13, 7, [0]), (20, 11, [0]), (20, 14, [0]), (21, 6, [0]), (21, 9, [0])], Try.func30, by decide, by kernel_rfl⟩
theorem rec_Write_is : FnIs Try.prog F_rec_Write rec_Write := ⟨Try.f28, [(3, 1, [7]), (10, 7, [0]), (13, 6, [0])], Try.func28, by decide, by kernel_rfl⟩
theorem ref7_CheckRec_is : FnIs Try.prog F_ref7_CheckRec ref7_CheckRec := ⟨Try.f23, [], Try.func23, by decide, by kernel_rfl⟩
theorem law1_Of_is : FnIs Try.prog F_law1_Of law1_Of := ⟨Try.f25, [(1, 9, [0])], Try.func25, by decide, by kernel_rfl⟩
theorem ref7_SameRec_is : FnIs Try.prog F_ref7_SameRec ref7_SameRec := ⟨Try.f24, [], Try.func24, by decide, by kernel_rfl⟩
theorem law1_To_is : FnIs Try.prog F_law1_To law1_To := ⟨Try.f22, [(1, 13, [0])], Try.func22, by decide, by kernel_rfl⟩
theorem rec_Check_is : FnIs Try.prog F_rec_Check rec_Check := ⟨Try.f21, [], Try.func21, by decide, by kernel_rfl⟩
theorem rec_Cut_is : FnIs Try.prog F_rec_Cut rec_Cut := ⟨Try.f26, [(1, 9, [0]), (5, 4, [0]), (5, 6, [0]), (6, 1, [0])], Try.func26, by decide, by kernel_rfl⟩
theorem rec_Same_is : FnIs Try.prog F_rec_Same rec_Same := ⟨Try.f31, [], Try.func31, by decide, by kernel_rfl⟩
theorem slices_Clone_byte_byte_is : ExtIs Try.prog F_slices_Clone_byte_byte (cloneE 1 1) := clone_ok (zero := [.p (.int .u8 0)]) (by kernel_rfl) Try.func32 (by decide) (by
  refine ⟨_, _, _, _, _, _, 46, 5, 46, rfl, ?_⟩
  exact ⟨by kernel_rfl, by kernel_rfl, rfl, rfl, rfl, by kernel_rfl, by kernel_rfl, by kernel_rfl, by kernel_rfl, rfl⟩) (by decide)
theorem rec_put_is : FnIs Try.prog F_rec_put rec_put := ⟨Try.f34, [(1, 14, [0]), (2, 2, [0])], Try.func34, by decide, by kernel_rfl⟩
theorem bytes_Equal_is : FnIs Try.prog F_bytes_Equal bytes_Equal := ⟨Try.f35, [], Try.func35, by decide, by kernel_rfl⟩
theorem slices_Equal_int_int_is : FnIs Try.prog F_slices_Equal_int_int slices_Equal_int_int := ⟨Try.f36, [], Try.func36, by decide, by kernel_rfl⟩
theorem envOk : EnvOk Try.prog E := by
  refine tabEnv_ok (by kernel_rfl) ?_ ?_
  · intro p hp
    simp only [progL, List.mem_cons, List.not_mem_nil, or_false] at hp
    rcases hp with rfl | rfl | rfl | rfl | rfl | rfl | rfl | rfl | rfl | rfl | rfl | rfl | rfl | rfl | rfl | rfl
    · exact law1_RecFronts_is
    · exact law1_SameAll_is
    · exact law1_ToAll_is
    · exact law1_known_is
    · exact rec_Read_is
    · exact rec_Write_is
    · exact ref7_CheckRec_is
    · exact law1_Of_is
    · exact ref7_SameRec_is
    · exact law1_To_is
    · exact rec_Check_is
    · exact rec_Cut_is
    · exact rec_Same_is
    · exact rec_put_is
    · exact bytes_Equal_is
    · exact slices_Equal_int_int_is
  · intro p hp
    simp only [extL, List.mem_cons, List.not_mem_nil, or_false] at hp
    rcases hp with rfl
    · exact slices_Clone_byte_byte_is

end Go.Pv.Cb
