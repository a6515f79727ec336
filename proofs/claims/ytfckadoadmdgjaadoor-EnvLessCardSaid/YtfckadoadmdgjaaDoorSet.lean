/- What the functions that EnvLess reaches compute: a part. -/
import Derived.Test.YtfckadoadmdgjaaDoorBits
set_option linter.all false
namespace Go.Pv.Cb
set_option linter.unusedSimpArgs false
open Go.Pv
attribute [go_sem ↓] xS_bind xS_ret xS_get xS_val_t xS_val_cw xS_val_ca xS_valOf_w xS_valOf_a xS_valOf_alr xS_valOf_alb xS_valOf_ale xS_valOf_svr
attribute [go_sem ↓] xS_valOf_svb xS_valOf_sve xS_getPl_r xS_getPl_b xS_getPl_e xS_putPl_r xS_putPl_b xS_putPl_e xS_putPl_e0 xS_pute xS_getl xS_copy
attribute [go_sem ↓] xS_copyS_no xS_copyS_at xS_copyS_sub xS_take xS_takeS_no xS_takeS_atr xS_takeS_atb xS_takeS_ate xS_takeS_subr xS_takeS_subb xS_out_some xS_out_none
attribute [go_sem ↓] xS_outOn_none xS_sc xS_scInt xS_movPtr_box xS_movPtr_ptr xS_movPtr_fp xS_movPtr_clo xS_movPtr_w xS_movPtr_a xS_movPtr_al xS_movPtr_sv xS_movVal_w
attribute [go_sem ↓] xS_movVal_a xS_movVal_al xS_movVal_t xS_movPtr_t xS_movVal_sv xS_adr xS_build_nil xS_build_cons xS_bslice_nil xS_bslice_cons xS_ends_nn xS_ends_sn
attribute [go_sem ↓] xS_ends_ns xS_ends_ss xS_argP_cw xS_argP_ca xS_argP_clo xS_argP_t xS_argV_box xS_argV_ptr xS_argV_fp xS_argV_clo xS_argV_w xS_argV_a
attribute [go_sem ↓] xS_argV_al xS_argV_sv xS_argW_m xS_argW_c xS_args_nil xS_args_cons xS_caps_nil xS_caps_ptr xS_caps_w xS_caps_a xS_give_nil xS_give_cons
attribute [go_sem ↓] xS_outRes_1 xS_outRes_0 xS_outRes_2 xS_callP xS_op_mov_c xS_op_mov_t xS_op_asg_c xS_op_asg_t xS_asgA_mp xS_asgA_w xS_asgA_a xS_asgA_alt
attribute [go_sem ↓] xS_asgA_alb xS_asgA_ale xS_asgA_sv xS_asgA_box xS_asgA_ptr xS_asgA_fp xS_asgA_clo xS_asgA_alr xS_movVal_mp xS_movPtr_mp xS_mapOf_t xS_op_rng
attribute [go_sem ↓] xS_op_nxt xS_nxtA xS_op_mkm xS_op_mup xS_op_mlk_v xS_op_mlk_t xS_asgV xS_op_frz_c xS_op_frz_t xS_frzA_t xS_frzA_w xS_frzA_a
attribute [go_sem ↓] xS_frzA_al xS_frzA_sv xS_frzA_box xS_frzA_ptr xS_frzA_fp xS_frzV xS_op_loadf xS_loadfV_l xS_loadfV_r xS_op_pick xS_op_alloc xS_op_box
attribute [go_sem ↓] xS_op_build xS_op_bslice xS_op_load xS_loadV_l xS_loadV_r xS_op_store xS_storeV_l xS_storeC_e xS_storeC_k xS_storeC_b xS_storeC_r xS_op_movk
attribute [go_sem ↓] xS_movkA xS_op_movl xS_op_lenl xS_op_nilchk xS_op_bin xS_op_eqs xS_op_beq xS_op_un xS_op_cvi xS_op_b2s xS_op_s2b xS_op_i2s
attribute [go_sem ↓] xS_op_sid xS_op_sls xS_op_slc xS_slcV_p xS_slcV_no xS_slcV_at xS_op_fad xS_fadV_l xS_fadV_r xS_op_fld xS_op_iad xS_iadV_p
attribute [go_sem ↓] xS_iadV_atr xS_iadV_atb xS_iadV_subr xS_iadV_subb xS_iadV_no xS_iadV_ate xS_op_ixs xS_op_ext xS_op_nop xS_op_extu xS_extuK xS_extV
attribute [go_sem ↓] xS_op_call xS_op_callv xS_callvV xS_op_iter xS_op_cln xS_op_len_f xS_op_len_t xS_op_app xS_appC_t xS_appC_f xS_op_apps xS_op_mks
attribute [go_sem ↓] xS_op_mm xS_op_mkf xS_capsM_nil xS_capsM_c xS_capsM_t xS_oper xS_opergt xS_opergf xS_skip_s xS_skip_n xS_res_nil xS_res_tmp
attribute [go_sem ↓] xS_res_cell xS_back_nil xS_back_w xS_back_a xS_back_clo xS_back_fp xS_back_box xL_bind xL_ret xL_get xL_val_t xL_val_cw
attribute [go_sem ↓] xL_val_ca xL_valOf_w xL_valOf_a xL_valOf_alr xL_valOf_alb xL_valOf_ale xL_valOf_svr xL_valOf_svb xL_valOf_sve xL_getPl_r xL_getPl_b xL_getPl_e
attribute [go_sem ↓] xL_putPl_r xL_putPl_b xL_putPl_e xL_putPl_e0 xL_pute xL_getl xL_copy xL_copyS_no xL_copyS_at xL_copyS_sub xL_take xL_takeS_no
attribute [go_sem ↓] xL_takeS_atr xL_takeS_atb xL_takeS_ate xL_takeS_subr xL_takeS_subb xL_out_some xL_out_none xL_outOn_none xL_sc xL_scInt xL_movPtr_box xL_movPtr_ptr
attribute [go_sem ↓] xL_movPtr_fp xL_movPtr_clo xL_movPtr_w xL_movPtr_a xL_movPtr_al xL_movPtr_sv xL_movVal_w xL_movVal_a xL_movVal_al xL_movVal_t xL_movPtr_t xL_movVal_sv
attribute [go_sem ↓] xL_adr xL_build_nil xL_build_cons xL_bslice_nil xL_bslice_cons xL_ends_nn xL_ends_sn xL_ends_ns xL_ends_ss xL_argP_cw xL_argP_ca xL_argP_clo
attribute [go_sem ↓] xL_argP_t xL_argV_box xL_argV_ptr xL_argV_fp xL_argV_clo xL_argV_w xL_argV_a xL_argV_al xL_argV_sv xL_argW_m xL_argW_c xL_args_nil
attribute [go_sem ↓] xL_args_cons xL_caps_nil xL_caps_ptr xL_caps_w xL_caps_a xL_give_nil xL_give_cons xL_outRes_1 xL_outRes_0 xL_outRes_2 xL_callP xL_op_mov_c
attribute [go_sem ↓] xL_op_mov_t xL_op_asg_c xL_op_asg_t xL_asgA_mp xL_asgA_w xL_asgA_a xL_asgA_alt xL_asgA_alb xL_asgA_ale xL_asgA_sv xL_asgA_box xL_asgA_ptr
attribute [go_sem ↓] xL_asgA_fp xL_asgA_clo xL_asgA_alr xL_movVal_mp xL_movPtr_mp xL_mapOf_t xL_op_rng xL_op_nxt xL_nxtA xL_op_mkm xL_op_mup xL_op_mlk_v
attribute [go_sem ↓] xL_op_mlk_t xL_asgV xL_op_frz_c xL_op_frz_t xL_frzA_t xL_frzA_w xL_frzA_a xL_frzA_al xL_frzA_sv xL_frzA_box xL_frzA_ptr xL_frzA_fp
attribute [go_sem ↓] xL_frzV xL_op_loadf xL_loadfV_l xL_loadfV_r xL_op_pick xL_op_alloc xL_op_box xL_op_build xL_op_bslice xL_op_load xL_loadV_l xL_loadV_r
attribute [go_sem ↓] xL_op_store xL_storeV_l xL_storeC_e xL_storeC_k xL_storeC_b xL_storeC_r xL_op_movk xL_movkA xL_op_movl xL_op_lenl xL_op_nilchk xL_op_bin
attribute [go_sem ↓] xL_op_eqs xL_op_beq xL_op_un xL_op_cvi xL_op_b2s xL_op_s2b xL_op_i2s xL_op_sid xL_op_sls xL_op_slc xL_slcV_p xL_slcV_no
attribute [go_sem ↓] xL_slcV_at xL_op_fad xL_fadV_l xL_fadV_r xL_op_fld xL_op_iad xL_iadV_p xL_iadV_atr xL_iadV_atb xL_iadV_subr xL_iadV_subb xL_iadV_no
attribute [go_sem ↓] xL_iadV_ate xL_op_ixs xL_op_ext xL_op_nop xL_op_extu xL_extuK xL_extV xL_op_call xL_op_callv xL_callvV xL_op_iter xL_op_cln
attribute [go_sem ↓] xL_op_len_f xL_op_len_t xL_op_app xL_appC_t xL_appC_f xL_op_apps xL_op_mks xL_op_mm xL_op_mkf xL_capsM_nil xL_capsM_c xL_capsM_t
attribute [go_sem ↓] xL_oper xL_opergt xL_opergf xL_skip_s xL_skip_n obind_some ogo_u ogo_w ogo_a ogo_t ogo_box ogo_ptr
attribute [go_sem ↓] ogo_fp ogo_al ogo_sv ogo_clo ogo_mp ogo_it ogo_ln oif_true ocond_true ocond_false reduceIte Cb.bin_or8
attribute [go_sem ↓] Cb.and_7 Cb.and_15 Cb.and_31 Cb.and_63 Cb.and_255 Cb.and_1023 Cb.and_1023i Cb.and_192 Cb.or_64 Cb.or_d8 Cb.or_dc Cb.or_0u
attribute [go_sem ↓] Cb.or_8u beq0l beqfl beqtl beqnl oK_t oK_f qE_nor qE_ret v_nl v_s v_e
attribute [go_sem ↓] v_g v_t v_r v_d v_q v_c v_b v_o v_l v_f kS_goto obind_G
attribute [go_sem ↓] obind_oK obind_none th_nor th_exit th_goto th_ret bl_nor bl_exit bl_goto bl_ret kS_nor kS_exit
attribute [go_sem ↓] kS_ret oT_some vIf_t vIf_f vIf_n oG_of oG_t oG_f oG_n lk0 lk1 lk2
attribute [go_sem ↓] lk3 lk4 lk5 lk6 lk7 lkS gX_wr gS_put gXL_wr gL_put kG_none gX_outOn
attribute [go_sem ↓] gXL_outOn
attribute [go_sem] xK_nil xK_cons xO_nil xO_cons xDone xD_nil xD_cons xS_opt xS_guard xS_outVal_w xS_outVal_a xL_opt
attribute [go_sem] xL_guard xL_outVal_w xL_outVal_a List.reverse_cons List.reverse_nil ochk_pos bne beqI beqL oSc_eq oInt_eq oBool_eq
attribute [go_sem] oStr_eq oBit_eq oBitT_eq oBitF_eq oBitT_t oBitF_t oB2s_p oB2s_o oOwn_eq oEl_p oEl_o oEls_eq
attribute [go_sem] mmPV_max mmPV_min capV oBox_eq oBoxA_eq AV.on AV.onMem AV.onEl AV.isU Pl.holder Pl.isEl Live.ks
attribute [go_sem] LiveO.ko Pl.plus getIn putIn slot AV.cells AV.mk plainAll OV.plain OV.whole OV.wholes OV.wholess
attribute [go_sem] OV.frz OV.frzs OV.frzss elsLen capsOn binPV AV.rowLen sameRow_own sameRow_t frzT mkey_int mkey_str
attribute [go_sem] List.length_set isShift binInt binStr unPV cellsEq xshr xshl Int.reduceToNat Int.reduceAdd Int.reduceSub Int.reduceMul
attribute [go_sem] Int.reduceNeg Int.reducePow Int.reduceLT Int.reduceLE Int.reduceEq Int.reduceNe Int.reduceBEq Int.reduceBNe Int.reduceDiv Int.reduceMod Int.toNat_natCast Int.toNat_zero
attribute [go_sem] Nat.reducePow if_true if_false ite_true ite_false Bool.false_eq_true reduceCtorEq Nat.reduceEqDiff Nat.reduceLT Nat.reduceLeDiff Nat.reduceAdd Nat.reduceSub
attribute [go_sem] Nat.reduceMul Nat.reduceBEq Nat.reduceBNe Nat.blt_eq List.contains_cons List.contains_nil List.elem_cons List.elem_nil Bool.or_false Bool.false_or Bool.or_true Bool.true_or
attribute [go_sem] Bool.and_true Bool.true_and Bool.and_false Bool.false_and Bool.not_true Bool.not_false Bool.or_self Bool.and_self List.all_cons List.all_nil List.map_cons List.map_nil
attribute [go_sem] List.length_cons List.length_nil List.take_succ_cons List.take_zero List.drop_zero List.drop_succ_cons List.cons_append List.nil_append List.append_nil List.set_cons_zero List.set_cons_succ List.getElem?_cons_zero
attribute [go_sem] List.getElem?_cons_succ List.isEmpty_nil List.isEmpty_cons Option.toList_none Option.toList_some Option.map_some Option.bind_some decide_true decide_false and_self and_true true_and
attribute [go_sem] Nat.zero_add Nat.add_zero List.replicate_succ List.replicate_zero wrap_i64 wrap_u8 Int.mul_one Cb.wrap_i32 Cb.wrap_u16 Cb.wrap_u32 Cb.wrap_u64 cast_add1
attribute [go_sem] cast_add cast_sub1 getL setL List.length_append ofBytes_length plains_length put_byte put_bytes frzss_plains frzs_plain wholess_plains
attribute [go_sem] wholess_app frzss_app wholes_plain bytesOf_ofBytes ofBytes_get plains_get take_plains drop_plains take_ofBytes drop_ofBytes List.map_map List.append_assoc
attribute [go_sem] Cb.rep_u8 Cb.zerosB_length Cb.eI_length Cb.put_int Cb.put_ints Cb.eI_take Cb.eI_drop Cb.eI_get Cb.oRs_frz Cb.oRs_whole List.length_map List.getElem?_map
attribute [go_sem] Int.add_zero Int.zero_add gt_iff_lt ge_iff_le Int.reduceGT Int.reduceGE dec_and dec_or Int.cast_ofNat_Int beqB sub_k cl_own
attribute [go_sem] List.length_reverse List.reverse_reverse cat_c cput_c nble xDoneR nc0 List.length_take vIf_d oT_G vIte_tt vIf_t
attribute [go_sem] vIf_f oG_t oG_f decide_eq_true_eq decide_eq_false_iff_not not_true_eq_false not_false_eq_true or_true true_or or_false false_or and_false
attribute [go_sem] false_and implies_true beq_iff_eq Int.not_lt Int.not_le Decidable.not_not ne_eq eq_self Option.some.injEq Prod.mk.injEq List.cons.injEq tfp_n
attribute [go_sem] tfp_c kgs_nil kgs_cons pps_nil pps_cons sav_w sav_a sav_box sav_fp lk_nil lk_cons in_c
attribute [go_sem] kp_nil kp_cons ck_u ck_w ck_a ck_t ck_box ck_ptr ck_fp ck_al ck_sv ck_clo
attribute [go_sem] ck_mp ck_it ck_ln mk_nil mk_cons lkx_nil lkx_cons kx_get kG_nil kG_cons kH_nil kH_cons
attribute [go_sem] fS_killIf fS_killMem fS_wr fS_put fL_killIf fL_killMem fL_wr fL_put oK_t oK_f
end Go.Pv.Cb
