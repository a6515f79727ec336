/- What the functions that SubCounts reaches compute: a part. -/
import Derived.Test.YtcghkmihbfibkaaFns
import Derived.Test.YtcghkmihbfibkaaChecked
set_option linter.all false
namespace Go.Pv.Cb
set_option maxRecDepth 100000
set_option linter.unusedSimpArgs false
open Go.Pv Go.Proofs
theorem law2_SubCounts_is : FnIs Try.prog F_law2_SubCounts law2_SubCounts := ⟨Try.f5, [(8, 5, [0]), (17, 6, [0])], Try.func5, by decide, by kernel_rfl⟩
theorem law2_known_is : FnIs Try.prog F_law2_known law2_known := ⟨Try.f10, [(8, 2, [7]), (8, 5, [7]), (8, 8, [7])], Try.func10, by decide, by kernel_rfl⟩
theorem sub_Join_is : FnIs Try.prog F_sub_Join sub_Join := ⟨Try.f16, [(5, 1, [7]), (8, 11, [0]), (11, 1, [7]), (14, 11, [0]), (16, 3, [0])], Try.func16, by decide, by kernel_rfl⟩
theorem sub_Split_is : FnIs Try.prog F_sub_Split sub_Split := ⟨Try.f12, [(5, 3, [7]), (13, 15, [0]), (17, 3, [7]), (24, 0, [8]), (24, 1, [8]), (24, 2, [8]), (24, 11, [7]), (24, 13, [0]), (24, 16, [0])], Try.func12, by decide, by kernel_rfl⟩
theorem rec_Same_is : FnIs Try.prog F_rec_Same rec_Same := ⟨Try.f31, [], Try.func31, by decide, by kernel_rfl⟩
theorem slices_Clone_byte_byte_is : ExtIs Try.prog F_slices_Clone_byte_byte (cloneE 1 1) := clone_ok (zero := [.p (.int .u8 0)]) (by kernel_rfl) Try.func32 (by decide) (by
  refine ⟨_, _, _, _, _, _, 46, 5, 46, rfl, ?_⟩
  exact ⟨by kernel_rfl, by kernel_rfl, rfl, rfl, rfl, by kernel_rfl, by kernel_rfl, by kernel_rfl, by kernel_rfl, rfl⟩) (by decide)
theorem slices_Clone_int_int_is : ExtIs Try.prog F_slices_Clone_int_int (cloneE 1 8) := clone_ok (zero := [.p (.int .i64 0)]) (by kernel_rfl) Try.func33 (by decide) (by
  refine ⟨_, _, _, _, _, _, 47, 3, 47, rfl, ?_⟩
  exact ⟨by kernel_rfl, by kernel_rfl, rfl, rfl, rfl, by kernel_rfl, by kernel_rfl, by kernel_rfl, by kernel_rfl, rfl⟩) (by decide)
theorem bytes_Equal_is : FnIs Try.prog F_bytes_Equal bytes_Equal := ⟨Try.f35, [], Try.func35, by decide, by kernel_rfl⟩
theorem slices_Equal_int_int_is : FnIs Try.prog F_slices_Equal_int_int slices_Equal_int_int := ⟨Try.f36, [], Try.func36, by decide, by kernel_rfl⟩
theorem envOk : EnvOk Try.prog E := by
  refine tabEnv_ok (by kernel_rfl) ?_ ?_
  · intro p hp
    simp only [progL, List.mem_cons, List.not_mem_nil, or_false] at hp
    rcases hp with rfl | rfl | rfl | rfl | rfl | rfl | rfl
    · exact law2_SubCounts_is
    · exact law2_known_is
    · exact sub_Join_is
    · exact sub_Split_is
    · exact rec_Same_is
    · exact bytes_Equal_is
    · exact slices_Equal_int_int_is
  · intro p hp
    simp only [extL, List.mem_cons, List.not_mem_nil, or_false] at hp
    rcases hp with rfl | rfl
    · exact slices_Clone_byte_byte_is
    · exact slices_Clone_int_int_is

end Go.Pv.Cb
