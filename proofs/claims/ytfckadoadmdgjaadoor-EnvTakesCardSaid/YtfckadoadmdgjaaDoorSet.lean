/- What the functions that EnvTakes reaches compute: a part. -/
import Derived.Test.YtfckadoadmdgjaaDoorBits
set_option linter.all false
namespace Go.Pv.Cb
set_option linter.unusedSimpArgs false
open Go.Pv
attribute [go_sem ↓] xS_bind xS_ret xS_val_t xS_val_cw xS_valOf_w xS_valOf_a xS_valOf_alr xS_valOf_alb
attribute [go_sem ↓] xS_valOf_svb xS_getPl_b xS_getPl_e xS_putPl_r xS_putPl_b xS_putPl_e xS_putPl_e0 xS_pute xS_copy
attribute [go_sem ↓] xS_copyS_at xS_take xS_takeS_no xS_takeS_atr xS_takeS_atb xS_takeS_subb xS_out_some
attribute [go_sem ↓] xS_sc xS_scInt xS_movPtr_box xS_movPtr_ptr xS_movPtr_clo xS_movPtr_w xS_movVal_w
attribute [go_sem ↓] xS_movVal_t xS_movPtr_t xS_adr xS_build_nil xS_build_cons xS_bslice_nil xS_bslice_cons
attribute [go_sem ↓] xS_ends_ns xS_argP_cw xS_argP_clo xS_argP_t xS_argV_box xS_argV_ptr xS_argV_clo xS_argV_w xS_argV_a
attribute [go_sem ↓] xS_argV_al xS_argW_m xS_argW_c xS_args_nil xS_args_cons xS_caps_nil xS_give_nil xS_give_cons
attribute [go_sem ↓] xS_outRes_1 xS_outRes_2 xS_callP xS_op_mov_c xS_op_mov_t xS_op_asg_c xS_op_asg_t xS_asgA_w
attribute [go_sem ↓] xS_asgA_alr xS_op_rng
attribute [go_sem ↓] xS_op_nxt xS_nxtA xS_asgV
attribute [go_sem ↓] xS_op_loadf xS_loadfV_l xS_loadfV_r xS_op_pick xS_op_alloc xS_op_box
attribute [go_sem ↓] xS_op_build xS_op_bslice xS_op_load xS_loadV_l xS_loadV_r xS_op_store xS_storeV_l xS_storeC_k xS_storeC_b
attribute [go_sem ↓] xS_op_nilchk xS_op_bin xS_op_eqs xS_op_un xS_op_cvi
attribute [go_sem ↓] xS_op_slc xS_slcV_at xS_op_fad xS_fadV_l xS_fadV_r xS_op_iad xS_iadV_p
attribute [go_sem ↓] xS_iadV_atr xS_iadV_atb xS_op_ixs xS_op_ext xS_extV
attribute [go_sem ↓] xS_op_call xS_op_callv xS_callvV xS_op_iter xS_op_len_f xS_op_len_t xS_op_app xS_appC_t
attribute [go_sem ↓] xS_oper xS_opergt xS_opergf xS_skip_s xS_res_nil xS_res_tmp
attribute [go_sem ↓] xS_res_cell xS_back_nil xS_back_w xS_back_a xS_back_clo xS_back_box xL_bind xL_ret xL_val_t xL_val_cw
attribute [go_sem ↓] xL_valOf_w xL_valOf_a xL_valOf_alb xL_getPl_b
attribute [go_sem ↓] xL_putPl_r xL_putPl_b xL_copy xL_copyS_at xL_take
attribute [go_sem ↓] xL_takeS_atr xL_takeS_atb xL_out_some xL_sc xL_scInt
attribute [go_sem ↓] xL_movPtr_w xL_movVal_w
attribute [go_sem ↓] xL_adr xL_build_nil xL_build_cons xL_bslice_nil xL_bslice_cons xL_argP_cw xL_argP_clo
attribute [go_sem ↓] xL_argP_t xL_argV_w xL_argV_a xL_argV_al xL_argW_c xL_args_nil
attribute [go_sem ↓] xL_args_cons xL_give_nil xL_outRes_1 xL_callP
attribute [go_sem ↓] xL_op_mov_t xL_op_asg_t xL_asgA_w
attribute [go_sem ↓] xL_asgV
attribute [go_sem ↓] xL_op_pick xL_op_alloc xL_op_build xL_op_bslice xL_op_load xL_loadV_l xL_loadV_r
attribute [go_sem ↓] xL_op_store xL_storeV_l xL_storeC_k xL_storeC_b xL_op_bin
attribute [go_sem ↓] xL_op_eqs xL_op_un
attribute [go_sem ↓] xL_op_fad xL_fadV_l xL_fadV_r xL_op_iad xL_iadV_p
attribute [go_sem ↓] xL_op_call
attribute [go_sem ↓] xL_op_len_f xL_op_len_t xL_op_app xL_appC_t xL_op_mm
attribute [go_sem ↓] xL_oper xL_opergt xL_opergf xL_skip_s obind_some ogo_w ogo_a ogo_t ogo_box ogo_ptr
attribute [go_sem ↓] ogo_fp ogo_al ogo_sv ogo_clo ogo_it oif_true ocond_true ocond_false reduceIte
attribute [go_sem ↓] Cb.and_7 Cb.and_15 Cb.and_31 Cb.and_63 Cb.and_1023 Cb.and_1023i Cb.and_192 Cb.or_64 Cb.or_d8 Cb.or_dc
attribute [go_sem ↓] beq0l beqfl beqnl oK_t oK_f qE_ret v_nl v_s v_e
attribute [go_sem ↓] v_g v_t v_r v_d v_q v_c v_b v_o v_l v_f kS_goto obind_G
attribute [go_sem ↓] th_nor th_exit th_ret bl_nor bl_exit bl_ret
attribute [go_sem ↓] kS_ret oT_some vIf_t vIf_f vIf_n oG_of oG_t oG_f oG_n lk0 lk1 lk2
attribute [go_sem ↓] lk3 lk4 lk5 lk6 lk7 lkS gX_wr gS_put gXL_wr gL_put kG_none gX_outOn
attribute [go_sem ↓] gXL_outOn
attribute [go_sem] xK_nil xK_cons xD_nil xD_cons xS_opt xS_outVal_w xS_outVal_a xL_opt
attribute [go_sem] xL_outVal_w xL_outVal_a List.reverse_cons List.reverse_nil ochk_pos bne beqI beqL oSc_eq oInt_eq oBool_eq
attribute [go_sem] oStr_eq oBitT_eq oBitF_eq oBitT_t oBitF_t oOwn_eq oEl_o
attribute [go_sem] mmPV_max capV oBox_eq oBoxA_eq AV.on AV.onMem AV.onEl AV.isU Pl.holder Pl.isEl Live.ks
attribute [go_sem] LiveO.ko Pl.plus getIn putIn slot AV.cells AV.mk plainAll OV.plain OV.whole OV.wholes OV.wholess
attribute [go_sem] OV.frz OV.frzs OV.frzss elsLen capsOn binPV AV.rowLen sameRow_own sameRow_t frzT
attribute [go_sem] List.length_set isShift binInt binStr unPV cellsEq xshr xshl Int.reduceToNat Int.reduceAdd Int.reduceSub Int.reduceMul
attribute [go_sem] Int.reduceNeg Int.reducePow Int.reduceLT Int.reduceLE Int.reduceEq Int.reduceNe Int.reduceBEq Int.reduceBNe Int.reduceDiv Int.reduceMod Int.toNat_natCast Int.toNat_zero
attribute [go_sem] Nat.reducePow if_true if_false ite_true ite_false Bool.false_eq_true reduceCtorEq Nat.reduceEqDiff Nat.reduceLT Nat.reduceLeDiff Nat.reduceAdd Nat.reduceSub
attribute [go_sem] Nat.reduceMul Nat.reduceBEq Nat.reduceBNe Nat.blt_eq List.contains_cons List.contains_nil List.elem_cons List.elem_nil Bool.or_false Bool.false_or Bool.or_true Bool.true_or
attribute [go_sem] Bool.and_true Bool.true_and Bool.and_false Bool.false_and Bool.not_true Bool.not_false Bool.or_self Bool.and_self List.all_cons List.all_nil List.map_cons List.map_nil
attribute [go_sem] List.length_cons List.length_nil List.take_succ_cons List.take_zero List.drop_zero List.drop_succ_cons List.cons_append List.nil_append List.append_nil List.set_cons_zero List.set_cons_succ List.getElem?_cons_zero
attribute [go_sem] List.getElem?_cons_succ List.isEmpty_nil List.isEmpty_cons Option.toList_none Option.toList_some Option.map_some Option.bind_some decide_true decide_false and_self and_true true_and
attribute [go_sem] Nat.zero_add Nat.add_zero List.replicate_succ List.replicate_zero wrap_i64 Int.mul_one Cb.wrap_i32 cast_add1
attribute [go_sem] cast_add cast_sub1 getL List.length_append plains_length frzss_plains frzs_plain wholess_plains
attribute [go_sem] wholess_app wholes_plain List.map_map List.append_assoc
attribute [go_sem] Cb.eI_length Cb.put_int Cb.eI_get List.length_map List.getElem?_map
attribute [go_sem] Int.add_zero Int.zero_add gt_iff_lt ge_iff_le Int.reduceGT Int.reduceGE dec_and Int.cast_ofNat_Int beqB sub_k
attribute [go_sem] List.length_reverse List.reverse_reverse cat_c cput_c nble xDoneR List.length_take vIf_d oT_G vIte_tt vIf_t
attribute [go_sem] vIf_f oG_t oG_f decide_eq_true_eq decide_eq_false_iff_not not_true_eq_false not_false_eq_true or_true true_or or_false false_or and_false
attribute [go_sem] false_and implies_true beq_iff_eq Int.not_lt Int.not_le Decidable.not_not ne_eq eq_self Option.some.injEq Prod.mk.injEq List.cons.injEq tfp_n
attribute [go_sem] tfp_c kgs_nil kgs_cons pps_nil pps_cons sav_w sav_box lk_nil lk_cons in_c
attribute [go_sem] kp_nil kp_cons ck_w ck_t ck_box ck_ptr ck_clo
attribute [go_sem] ck_it mk_nil mk_cons lkx_nil lkx_cons kx_get kG_nil kG_cons kH_nil kH_cons
attribute [go_sem] fS_killIf fS_killMem fS_wr fS_put fL_killIf fL_killMem fL_wr fL_put oK_t oK_f
end Go.Pv.Cb
