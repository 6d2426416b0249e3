/-
Working texts: contracts of functions, and the numbers behind them.
-/
import Derived.Test.YtjikmagomahhcaaDoorRfC
import Derived.Test.YtjikmagomahhcaaDoorScD
import Derived.Test.YtjikmagomahhcaaDoorAmRow
set_option linter.unusedSimpArgs false
set_option linter.unusedVariables false
set_option linter.unusedSectionVars false
set_option linter.unusedSimpArgs false
set_option linter.unusedVariables false
set_option maxRecDepth 20000
namespace Am
open Go.Proofs
theorem prod_bound {x y : Int} (h0 : 0 ≤ x) (h1 : x < 65536) (h2 : 0 ≤ y) (h3 : y < 65536) : 0 ≤ x * y ∧ x * y ≤ 4294836225 := by
  refine ⟨Int.mul_nonneg h0 h2, ?_⟩
  have e1 := Int.mul_le_mul_of_nonneg_left (show y ≤ 65535 by omega) h0
  omega
def pre16 (ds : List D) : Prop := ∃ a b, ds = [.s .u32 a, .s .u32 b] ∧ Dig 65536 a ∧ Dig 65536 b ∧ a.length ≤ 65536 ∧ b.length ≤ 65536
def F16 : List D → Out
  | [.s _ a, .s _ b] => .one (.s .u32 (dig 65536 (a.length + b.length) (val 65536 a * val 65536 b)))
  | _ => bad
def s16 : Summ := sData [.s .u32, .s .u32] pre16 F16
theorem ok16 : SumOK Tryd.prog gl 16 s16 ∧ SumAbs s16 := by
  refine fsum (l := []) mixed gl_plain rfl Tryd.func16 comp16 compR16 nt16 (by simp) fun ds ⟨a, b, hd, ha, hb, hal, hbl⟩ hA => ?_
  subst hd
  simp only [ir16, rs16, gl, F16, ↓h_bin, ↓h_binB, ↓h_binS, ↓h_binP, ↓h_un, ↓h_content, ↓h_bound, ↓h_part, ↓h_iadd, ↓h_isub, ↓h_imul, ↓h_iquo, ↓h_irem, ↓h_iand, ↓h_ior, ↓h_ixor, ↓h_iandNot, ↓h_ishl, ↓h_ishr, ↓h_ieql, ↓h_ineq, ↓h_ilss, ↓h_ileq, ↓h_igtr, ↓h_igeq, ↓h_call0, ↓h_callM0, ↓h_call1, ↓h_callM1, ↓h_call2, ↓h_callM2, ↓h_call3, ↓h_callM3, ↓h_call4, ↓h_callM4, ↓h_call5, ↓h_callM5, ↓h_call6, ↓h_callM6, ↓h_hit, ↓h_miss, ↓h_sData, ↓h_rds0, ↓h_rds1, ↓h_rdv, ↓h_rds, ↓h_rdr, ↓h_frzs0, ↓h_frzs1, ↓h_fzsl, ↓h_fzp, ↓h_fzi, ↓h_fznils, ↓h_fzrsl, ↓h_fzrcs, ↓h_fzrpi, ↓h_fzrpc, ↓h_fzint, ↓h_fzbool, ↓h_fzstr, ↓h_fzints, ↓h_fznilp, ↓h_fzagg, ↓h_build0, ↓h_build1, ↓h_build2, ↓h_fill0, ↓h_fill1, ↓y_skip, ↓y_seq, ↓y_ops, ↓y_opsC, ↓z_condT, ↓z_condF, ↓z_condAny, setX_t, ↓y_block, ↓y_exit, ↓y_ret, ↓r_nil, ↓r_g0, ↓r_g1, ↓z_gHit, ↓z_gMiss, ↓z_gTup, ↓z_gAny, Wi_app, ↓y_loop, ↓x_mov, ↓x_movS, ↓z_pickT, ↓z_pickF, ↓x_pick, ↓x_alloc, ↓x_box, ↓x_build, ↓x_bsl, ↓x_load, ↓x_loadN, ↓x_store, ↓x_storeN, ↓x_bin, ↓x_binB, ↓x_binS, ↓x_binP, ↓x_eqf, ↓x_un, ↓x_conv, ↓x_s2b, ↓x_b2s, ↓x_mks, ↓x_slcA, ↓x_slcS, ↓x_slcStr, ↓x_fldA, ↓x_fld, ↓x_idxA, ↓x_idxS, ↓x_idxV, ↓x_ext, ↓x_len, ↓x_lenS, ↓x_lenA, ↓x_app, ↓x_appZ, ↓x_eqnS, ↓h_appK, ↓x_copy, ↓x_mm, ↓x_nck, ↓x_mark, ↓x_idxStr, ev_t, ev_c, evs, evp, mkB, repB, fill, blen, apS_nil, apS_cons, apN_nil, apN_cons, put_some, put_none, upd_0, upd_s, updB_0, updB_s, nth_0, nth_s, nthB_0, nthB_s, ↓thenQ_n, ↓thenQ_e, ↓thenQ_r, ↓blockQ_n, ↓blockQ_e, ↓blockQ_r, ↓retQ, res, resAll, resOne, kill, apartOk, exp, injV, injB, pur, purs, purR, pursR, List.set_cons_zero, List.set_cons_succ, List.length_cons, List.length_nil, List.cons_append, List.nil_append, List.append_nil, List.append_assoc, List.length_append, List.reduceReplicate, Nat.reduceAdd, Nat.reduceMul, Nat.reduceSub, Nat.reduceEqDiff, Nat.reduceLT, Nat.zero_add, Nat.add_zero, Nat.mul_one, Int.reduceToNat, Int.toNat_natCast, Int.reduceLE, Int.reduceLT, Int.reduceEq, reduceCtorEq, ↓reduceIte, Bool.true_eq_false, Bool.false_eq_true, Bool.not_true, Bool.not_false, true_and, and_true, and_assoc, dig_length, sub_own, sub_dig, sub_rep, List.length_replicate, Nat.le_refl, forall_const, false_implies, true_implies, ne_eq, not_true_eq_false, not_false_eq_true, decide_true, decide_false, decide_eq_true_eq, decide_eq_false_iff_not, Bool.not_eq_true', Bool.not_eq_false', implies_true]
  have hab : Go.IntKind.i64.wrap ((a.length : Int) + b.length) = ((a.length + b.length : Nat) : Int) := by rw [w64 (by omega) (by omega)]; omega
  rw [hab]
  try simp only [↓h_bin, ↓h_binB, ↓h_binS, ↓h_binP, ↓h_un, ↓h_content, ↓h_bound, ↓h_part, ↓h_iadd, ↓h_isub, ↓h_imul, ↓h_iquo, ↓h_irem, ↓h_iand, ↓h_ior, ↓h_ixor, ↓h_iandNot, ↓h_ishl, ↓h_ishr, ↓h_ieql, ↓h_ineq, ↓h_ilss, ↓h_ileq, ↓h_igtr, ↓h_igeq, ↓h_call0, ↓h_callM0, ↓h_call1, ↓h_callM1, ↓h_call2, ↓h_callM2, ↓h_call3, ↓h_callM3, ↓h_call4, ↓h_callM4, ↓h_call5, ↓h_callM5, ↓h_call6, ↓h_callM6, ↓h_hit, ↓h_miss, ↓h_sData, ↓h_rds0, ↓h_rds1, ↓h_rdv, ↓h_rds, ↓h_rdr, ↓h_frzs0, ↓h_frzs1, ↓h_fzsl, ↓h_fzp, ↓h_fzi, ↓h_fznils, ↓h_fzrsl, ↓h_fzrcs, ↓h_fzrpi, ↓h_fzrpc, ↓h_fzint, ↓h_fzbool, ↓h_fzstr, ↓h_fzints, ↓h_fznilp, ↓h_fzagg, ↓h_build0, ↓h_build1, ↓h_build2, ↓h_fill0, ↓h_fill1, ↓y_skip, ↓y_seq, ↓y_ops, ↓y_opsC, ↓z_condT, ↓z_condF, ↓z_condAny, setX_t, ↓y_block, ↓y_exit, ↓y_ret, ↓r_nil, ↓r_g0, ↓r_g1, ↓z_gHit, ↓z_gMiss, ↓z_gTup, ↓z_gAny, Wi_app, ↓y_loop, ↓x_mov, ↓x_movS, ↓z_pickT, ↓z_pickF, ↓x_pick, ↓x_alloc, ↓x_box, ↓x_build, ↓x_bsl, ↓x_load, ↓x_loadN, ↓x_store, ↓x_storeN, ↓x_bin, ↓x_binB, ↓x_binS, ↓x_binP, ↓x_eqf, ↓x_un, ↓x_conv, ↓x_s2b, ↓x_b2s, ↓x_mks, ↓x_slcA, ↓x_slcS, ↓x_slcStr, ↓x_fldA, ↓x_fld, ↓x_idxA, ↓x_idxS, ↓x_idxV, ↓x_ext, ↓x_len, ↓x_lenS, ↓x_lenA, ↓x_app, ↓x_appZ, ↓x_eqnS, ↓h_appK, ↓x_copy, ↓x_mm, ↓x_nck, ↓x_mark, ↓x_idxStr, ev_t, ev_c, evs, evp, mkB, repB, fill, blen, apS_nil, apS_cons, apN_nil, apN_cons, put_some, put_none, upd_0, upd_s, updB_0, updB_s, nth_0, nth_s, nthB_0, nthB_s, ↓thenQ_n, ↓thenQ_e, ↓thenQ_r, ↓blockQ_n, ↓blockQ_e, ↓blockQ_r, ↓retQ, res, resAll, resOne, kill, apartOk, exp, injV, injB, pur, purs, purR, pursR, List.set_cons_zero, List.set_cons_succ, List.length_cons, List.length_nil, List.cons_append, List.nil_append, List.append_nil, List.append_assoc, List.length_append, List.reduceReplicate, Nat.reduceAdd, Nat.reduceMul, Nat.reduceSub, Nat.reduceEqDiff, Nat.reduceLT, Nat.zero_add, Nat.add_zero, Nat.mul_one, Int.reduceToNat, Int.toNat_natCast, Int.reduceLE, Int.reduceLT, Int.reduceEq, reduceCtorEq, ↓reduceIte, Bool.true_eq_false, Bool.false_eq_true, Bool.not_true, Bool.not_false, true_and, and_true, and_assoc, dig_length, sub_own, sub_dig, sub_rep, List.length_replicate, Nat.le_refl, forall_const, false_implies, true_implies, ne_eq, not_true_eq_false, not_false_eq_true, decide_true, decide_false, decide_eq_true_eq, decide_eq_false_iff_not, Bool.not_eq_true', Bool.not_eq_false', implies_true]
  obtain ⟨n, hn⟩ : ∃ n, n = a.length + b.length := ⟨_, rfl⟩
  rw [← hn]
  repeat (refine And.intro (by first | omega | rfl) ?_)
  refine awp_loopK hA (fun x : Nat × List Int => ⟨[.slice 4 0 1 a.length a.length, .slice 5 0 1 b.length b.length, .undef, .undef, .undef, .slice 6 0 1 n n, .int .i64 x.1] ++ List.replicate 69 .undef, [.ints true .u32 ord, .dead, .dead, .dead, .ints true .u32 a, .ints true .u32 b, .ints false .u64 x.2]⟩)
    (fun x => x.1 ≤ a.length ∧ x.2.length = n ∧ (∀ t, 0 ≤ getI x.2 t ∧ getI x.2 t ≤ 4294836225 * x.1) ∧ val 65536 x.2 = val 65536 (a.take x.1) * val 65536 b) (fun x => a.length - x.1) (0, List.replicate n 0) (by simp only [↓h_bin, ↓h_binB, ↓h_binS, ↓h_binP, ↓h_un, ↓h_content, ↓h_bound, ↓h_part, ↓h_iadd, ↓h_isub, ↓h_imul, ↓h_iquo, ↓h_irem, ↓h_iand, ↓h_ior, ↓h_ixor, ↓h_iandNot, ↓h_ishl, ↓h_ishr, ↓h_ieql, ↓h_ineq, ↓h_ilss, ↓h_ileq, ↓h_igtr, ↓h_igeq, ↓h_call0, ↓h_callM0, ↓h_call1, ↓h_callM1, ↓h_call2, ↓h_callM2, ↓h_call3, ↓h_callM3, ↓h_call4, ↓h_callM4, ↓h_call5, ↓h_callM5, ↓h_call6, ↓h_callM6, ↓h_hit, ↓h_miss, ↓h_sData, ↓h_rds0, ↓h_rds1, ↓h_rdv, ↓h_rds, ↓h_rdr, ↓h_frzs0, ↓h_frzs1, ↓h_fzsl, ↓h_fzp, ↓h_fzi, ↓h_fznils, ↓h_fzrsl, ↓h_fzrcs, ↓h_fzrpi, ↓h_fzrpc, ↓h_fzint, ↓h_fzbool, ↓h_fzstr, ↓h_fzints, ↓h_fznilp, ↓h_fzagg, ↓h_build0, ↓h_build1, ↓h_build2, ↓h_fill0, ↓h_fill1, ↓y_skip, ↓y_seq, ↓y_ops, ↓y_opsC, ↓z_condT, ↓z_condF, ↓z_condAny, setX_t, ↓y_block, ↓y_exit, ↓y_ret, ↓r_nil, ↓r_g0, ↓r_g1, ↓z_gHit, ↓z_gMiss, ↓z_gTup, ↓z_gAny, Wi_app, ↓y_loop, ↓x_mov, ↓x_movS, ↓z_pickT, ↓z_pickF, ↓x_pick, ↓x_alloc, ↓x_box, ↓x_build, ↓x_bsl, ↓x_load, ↓x_loadN, ↓x_store, ↓x_storeN, ↓x_bin, ↓x_binB, ↓x_binS, ↓x_binP, ↓x_eqf, ↓x_un, ↓x_conv, ↓x_s2b, ↓x_b2s, ↓x_mks, ↓x_slcA, ↓x_slcS, ↓x_slcStr, ↓x_fldA, ↓x_fld, ↓x_idxA, ↓x_idxS, ↓x_idxV, ↓x_ext, ↓x_len, ↓x_lenS, ↓x_lenA, ↓x_app, ↓x_appZ, ↓x_eqnS, ↓h_appK, ↓x_copy, ↓x_mm, ↓x_nck, ↓x_mark, ↓x_idxStr, ev_t, ev_c, evs, evp, mkB, repB, fill, blen, apS_nil, apS_cons, apN_nil, apN_cons, put_some, put_none, upd_0, upd_s, updB_0, updB_s, nth_0, nth_s, nthB_0, nthB_s, ↓thenQ_n, ↓thenQ_e, ↓thenQ_r, ↓blockQ_n, ↓blockQ_e, ↓blockQ_r, ↓retQ, res, resAll, resOne, kill, apartOk, exp, injV, injB, pur, purs, purR, pursR, List.set_cons_zero, List.set_cons_succ, List.length_cons, List.length_nil, List.cons_append, List.nil_append, List.append_nil, List.append_assoc, List.length_append, List.reduceReplicate, Nat.reduceAdd, Nat.reduceMul, Nat.reduceSub, Nat.reduceEqDiff, Nat.reduceLT, Nat.zero_add, Nat.add_zero, Nat.mul_one, Int.reduceToNat, Int.toNat_natCast, Int.reduceLE, Int.reduceLT, Int.reduceEq, reduceCtorEq, ↓reduceIte, Bool.true_eq_false, Bool.false_eq_true, Bool.not_true, Bool.not_false, true_and, and_true, and_assoc, dig_length, sub_own, sub_dig, sub_rep, List.length_replicate, Nat.le_refl, forall_const, false_implies, true_implies, ne_eq, not_true_eq_false, not_false_eq_true, decide_true, decide_false, decide_eq_true_eq, decide_eq_false_iff_not, Bool.not_eq_true', Bool.not_eq_false', implies_true]; rfl)
    ⟨by simp, by simp, fun t => by simp [getI_replicate0], by simp [val, val_replicate]⟩ ?_
  rintro ⟨i, o⟩ ⟨h1, h2, h3, h4⟩ K hK
  simp only [] at h1 h2 h3 h4
  simp only [↓h_bin, ↓h_binB, ↓h_binS, ↓h_binP, ↓h_un, ↓h_content, ↓h_bound, ↓h_part, ↓h_iadd, ↓h_isub, ↓h_imul, ↓h_iquo, ↓h_irem, ↓h_iand, ↓h_ior, ↓h_ixor, ↓h_iandNot, ↓h_ishl, ↓h_ishr, ↓h_ieql, ↓h_ineq, ↓h_ilss, ↓h_ileq, ↓h_igtr, ↓h_igeq, ↓h_call0, ↓h_callM0, ↓h_call1, ↓h_callM1, ↓h_call2, ↓h_callM2, ↓h_call3, ↓h_callM3, ↓h_call4, ↓h_callM4, ↓h_call5, ↓h_callM5, ↓h_call6, ↓h_callM6, ↓h_hit, ↓h_miss, ↓h_sData, ↓h_rds0, ↓h_rds1, ↓h_rdv, ↓h_rds, ↓h_rdr, ↓h_frzs0, ↓h_frzs1, ↓h_fzsl, ↓h_fzp, ↓h_fzi, ↓h_fznils, ↓h_fzrsl, ↓h_fzrcs, ↓h_fzrpi, ↓h_fzrpc, ↓h_fzint, ↓h_fzbool, ↓h_fzstr, ↓h_fzints, ↓h_fznilp, ↓h_fzagg, ↓h_build0, ↓h_build1, ↓h_build2, ↓h_fill0, ↓h_fill1, ↓y_skip, ↓y_seq, ↓y_ops, ↓y_opsC, ↓z_condT, ↓z_condF, ↓z_condAny, setX_t, ↓y_block, ↓y_exit, ↓y_ret, ↓r_nil, ↓r_g0, ↓r_g1, ↓z_gHit, ↓z_gMiss, ↓z_gTup, ↓z_gAny, Wi_app, ↓y_loop, ↓x_mov, ↓x_movS, ↓z_pickT, ↓z_pickF, ↓x_pick, ↓x_alloc, ↓x_box, ↓x_build, ↓x_bsl, ↓x_load, ↓x_loadN, ↓x_store, ↓x_storeN, ↓x_bin, ↓x_binB, ↓x_binS, ↓x_binP, ↓x_eqf, ↓x_un, ↓x_conv, ↓x_s2b, ↓x_b2s, ↓x_mks, ↓x_slcA, ↓x_slcS, ↓x_slcStr, ↓x_fldA, ↓x_fld, ↓x_idxA, ↓x_idxS, ↓x_idxV, ↓x_ext, ↓x_len, ↓x_lenS, ↓x_lenA, ↓x_app, ↓x_appZ, ↓x_eqnS, ↓h_appK, ↓x_copy, ↓x_mm, ↓x_nck, ↓x_mark, ↓x_idxStr, ev_t, ev_c, evs, evp, mkB, repB, fill, blen, apS_nil, apS_cons, apN_nil, apN_cons, put_some, put_none, upd_0, upd_s, updB_0, updB_s, nth_0, nth_s, nthB_0, nthB_s, ↓thenQ_n, ↓thenQ_e, ↓thenQ_r, ↓blockQ_n, ↓blockQ_e, ↓blockQ_r, ↓retQ, res, resAll, resOne, kill, apartOk, exp, injV, injB, pur, purs, purR, pursR, List.set_cons_zero, List.set_cons_succ, List.length_cons, List.length_nil, List.cons_append, List.nil_append, List.append_nil, List.append_assoc, List.length_append, List.reduceReplicate, Nat.reduceAdd, Nat.reduceMul, Nat.reduceSub, Nat.reduceEqDiff, Nat.reduceLT, Nat.zero_add, Nat.add_zero, Nat.mul_one, Int.reduceToNat, Int.toNat_natCast, Int.reduceLE, Int.reduceLT, Int.reduceEq, reduceCtorEq, ↓reduceIte, Bool.true_eq_false, Bool.false_eq_true, Bool.not_true, Bool.not_false, true_and, and_true, and_assoc, dig_length, sub_own, sub_dig, sub_rep, List.length_replicate, Nat.le_refl, forall_const, false_implies, true_implies, ne_eq, not_true_eq_false, not_false_eq_true, decide_true, decide_false, decide_eq_true_eq, decide_eq_false_iff_not, Bool.not_eq_true', Bool.not_eq_false', implies_true]
  refine ⟨fun hi => ?_, fun hi => ?_⟩
  · have hi : i < a.length := by omega
    have hai := ha.get hi
    refine awp_loopK hA (fun x : Nat × List Int => ⟨[.slice 4 0 1 a.length a.length, .slice 5 0 1 b.length b.length, .undef, .undef, .undef, .slice 6 0 1 n n, .int .i64 i, .int .i64 x.1] ++ List.replicate 68 .undef, [.ints true .u32 ord, .dead, .dead, .dead, .ints true .u32 a, .ints true .u32 b, .ints false .u64 x.2]⟩)
      (fun x => x.1 ≤ b.length ∧ x.2.length = n ∧ (∀ t, 0 ≤ getI x.2 t ∧ getI x.2 t ≤ 4294836225 * (i + 1)) ∧ (∀ t, i + x.1 ≤ t → getI x.2 t ≤ 4294836225 * i) ∧ val 65536 x.2 = val 65536 (a.take i) * val 65536 b + 65536 ^ i * (getI a i * val 65536 (b.take x.1))) (fun x => b.length - x.1) (0, o) (by simp only [↓h_bin, ↓h_binB, ↓h_binS, ↓h_binP, ↓h_un, ↓h_content, ↓h_bound, ↓h_part, ↓h_iadd, ↓h_isub, ↓h_imul, ↓h_iquo, ↓h_irem, ↓h_iand, ↓h_ior, ↓h_ixor, ↓h_iandNot, ↓h_ishl, ↓h_ishr, ↓h_ieql, ↓h_ineq, ↓h_ilss, ↓h_ileq, ↓h_igtr, ↓h_igeq, ↓h_call0, ↓h_callM0, ↓h_call1, ↓h_callM1, ↓h_call2, ↓h_callM2, ↓h_call3, ↓h_callM3, ↓h_call4, ↓h_callM4, ↓h_call5, ↓h_callM5, ↓h_call6, ↓h_callM6, ↓h_hit, ↓h_miss, ↓h_sData, ↓h_rds0, ↓h_rds1, ↓h_rdv, ↓h_rds, ↓h_rdr, ↓h_frzs0, ↓h_frzs1, ↓h_fzsl, ↓h_fzp, ↓h_fzi, ↓h_fznils, ↓h_fzrsl, ↓h_fzrcs, ↓h_fzrpi, ↓h_fzrpc, ↓h_fzint, ↓h_fzbool, ↓h_fzstr, ↓h_fzints, ↓h_fznilp, ↓h_fzagg, ↓h_build0, ↓h_build1, ↓h_build2, ↓h_fill0, ↓h_fill1, ↓y_skip, ↓y_seq, ↓y_ops, ↓y_opsC, ↓z_condT, ↓z_condF, ↓z_condAny, setX_t, ↓y_block, ↓y_exit, ↓y_ret, ↓r_nil, ↓r_g0, ↓r_g1, ↓z_gHit, ↓z_gMiss, ↓z_gTup, ↓z_gAny, Wi_app, ↓y_loop, ↓x_mov, ↓x_movS, ↓z_pickT, ↓z_pickF, ↓x_pick, ↓x_alloc, ↓x_box, ↓x_build, ↓x_bsl, ↓x_load, ↓x_loadN, ↓x_store, ↓x_storeN, ↓x_bin, ↓x_binB, ↓x_binS, ↓x_binP, ↓x_eqf, ↓x_un, ↓x_conv, ↓x_s2b, ↓x_b2s, ↓x_mks, ↓x_slcA, ↓x_slcS, ↓x_slcStr, ↓x_fldA, ↓x_fld, ↓x_idxA, ↓x_idxS, ↓x_idxV, ↓x_ext, ↓x_len, ↓x_lenS, ↓x_lenA, ↓x_app, ↓x_appZ, ↓x_eqnS, ↓h_appK, ↓x_copy, ↓x_mm, ↓x_nck, ↓x_mark, ↓x_idxStr, ev_t, ev_c, evs, evp, mkB, repB, fill, blen, apS_nil, apS_cons, apN_nil, apN_cons, put_some, put_none, upd_0, upd_s, updB_0, updB_s, nth_0, nth_s, nthB_0, nthB_s, ↓thenQ_n, ↓thenQ_e, ↓thenQ_r, ↓blockQ_n, ↓blockQ_e, ↓blockQ_r, ↓retQ, res, resAll, resOne, kill, apartOk, exp, injV, injB, pur, purs, purR, pursR, List.set_cons_zero, List.set_cons_succ, List.length_cons, List.length_nil, List.cons_append, List.nil_append, List.append_nil, List.append_assoc, List.length_append, List.reduceReplicate, Nat.reduceAdd, Nat.reduceMul, Nat.reduceSub, Nat.reduceEqDiff, Nat.reduceLT, Nat.zero_add, Nat.add_zero, Nat.mul_one, Int.reduceToNat, Int.toNat_natCast, Int.reduceLE, Int.reduceLT, Int.reduceEq, reduceCtorEq, ↓reduceIte, Bool.true_eq_false, Bool.false_eq_true, Bool.not_true, Bool.not_false, true_and, and_true, and_assoc, dig_length, sub_own, sub_dig, sub_rep, List.length_replicate, Nat.le_refl, forall_const, false_implies, true_implies, ne_eq, not_true_eq_false, not_false_eq_true, decide_true, decide_false, decide_eq_true_eq, decide_eq_false_iff_not, Bool.not_eq_true', Bool.not_eq_false', implies_true]; rfl)
      ⟨by simp, h2, fun t => by have := h3 t; simp only []; omega, fun t _ => (h3 t).2, by simp [val, h4]⟩ ?_
    rintro ⟨k, o'⟩ ⟨g1, g2, g3, g4, g5⟩ K' hK'
    simp only [] at g1 g2 g3 g4 g5
    simp only [apartOk, ↓h_bin, ↓h_binB, ↓h_binS, ↓h_binP, ↓h_un, ↓h_content, ↓h_bound, ↓h_part, ↓h_iadd, ↓h_isub, ↓h_imul, ↓h_iquo, ↓h_irem, ↓h_iand, ↓h_ior, ↓h_ixor, ↓h_iandNot, ↓h_ishl, ↓h_ishr, ↓h_ieql, ↓h_ineq, ↓h_ilss, ↓h_ileq, ↓h_igtr, ↓h_igeq, ↓h_call0, ↓h_callM0, ↓h_call1, ↓h_callM1, ↓h_call2, ↓h_callM2, ↓h_call3, ↓h_callM3, ↓h_call4, ↓h_callM4, ↓h_call5, ↓h_callM5, ↓h_call6, ↓h_callM6, ↓h_hit, ↓h_miss, ↓h_sData, ↓h_rds0, ↓h_rds1, ↓h_rdv, ↓h_rds, ↓h_rdr, ↓h_frzs0, ↓h_frzs1, ↓h_fzsl, ↓h_fzp, ↓h_fzi, ↓h_fznils, ↓h_fzrsl, ↓h_fzrcs, ↓h_fzrpi, ↓h_fzrpc, ↓h_fzint, ↓h_fzbool, ↓h_fzstr, ↓h_fzints, ↓h_fznilp, ↓h_fzagg, ↓h_build0, ↓h_build1, ↓h_build2, ↓h_fill0, ↓h_fill1, ↓y_skip, ↓y_seq, ↓y_ops, ↓y_opsC, ↓z_condT, ↓z_condF, ↓z_condAny, setX_t, ↓y_block, ↓y_exit, ↓y_ret, ↓r_nil, ↓r_g0, ↓r_g1, ↓z_gHit, ↓z_gMiss, ↓z_gTup, ↓z_gAny, Wi_app, ↓y_loop, ↓x_mov, ↓x_movS, ↓z_pickT, ↓z_pickF, ↓x_pick, ↓x_alloc, ↓x_box, ↓x_build, ↓x_bsl, ↓x_load, ↓x_loadN, ↓x_store, ↓x_storeN, ↓x_bin, ↓x_binB, ↓x_binS, ↓x_binP, ↓x_eqf, ↓x_un, ↓x_conv, ↓x_s2b, ↓x_b2s, ↓x_mks, ↓x_slcA, ↓x_slcS, ↓x_slcStr, ↓x_fldA, ↓x_fld, ↓x_idxA, ↓x_idxS, ↓x_idxV, ↓x_ext, ↓x_len, ↓x_lenS, ↓x_lenA, ↓x_app, ↓x_appZ, ↓x_eqnS, ↓h_appK, ↓x_copy, ↓x_mm, ↓x_nck, ↓x_mark, ↓x_idxStr, ev_t, ev_c, evs, evp, mkB, repB, fill, blen, apS_nil, apS_cons, apN_nil, apN_cons, put_some, put_none, upd_0, upd_s, updB_0, updB_s, nth_0, nth_s, nthB_0, nthB_s, ↓thenQ_n, ↓thenQ_e, ↓thenQ_r, ↓blockQ_n, ↓blockQ_e, ↓blockQ_r, ↓retQ, res, resAll, resOne, kill, apartOk, exp, injV, injB, pur, purs, purR, pursR, List.set_cons_zero, List.set_cons_succ, List.length_cons, List.length_nil, List.cons_append, List.nil_append, List.append_nil, List.append_assoc, List.length_append, List.reduceReplicate, Nat.reduceAdd, Nat.reduceMul, Nat.reduceSub, Nat.reduceEqDiff, Nat.reduceLT, Nat.zero_add, Nat.add_zero, Nat.mul_one, Int.reduceToNat, Int.toNat_natCast, Int.reduceLE, Int.reduceLT, Int.reduceEq, reduceCtorEq, ↓reduceIte, Bool.true_eq_false, Bool.false_eq_true, Bool.not_true, Bool.not_false, true_and, and_true, and_assoc, dig_length, sub_own, sub_dig, sub_rep, List.length_replicate, Nat.le_refl, forall_const, false_implies, true_implies, ne_eq, not_true_eq_false, not_false_eq_true, decide_true, decide_false, decide_eq_true_eq, decide_eq_false_iff_not, Bool.not_eq_true', Bool.not_eq_false', implies_true]
    refine ⟨fun hk => ?_, fun hk => ?_⟩
    · have hk : k < b.length := by omega
      have hbk := hb.get hk
      have hp := prod_bound hai.1 hai.2 hbk.1 hbk.2
      have hik : Go.IntKind.i64.wrap ((i : Int) + k) = ((i + k : Nat) : Int) := by rw [w64 (by omega) (by omega)]; omega
      have ho := g3 (i + k)
      have ho' := g4 (i + k) (Nat.le_refl _)
      rw [hik, w64_inc (by omega), wu64 (n := getI a i) (by omega) (by omega), wu64 (n := getI b k) (by omega) (by omega), wu64 (n := _ * _) (by omega) (by omega)]
      simp only [↓h_bin, ↓h_binB, ↓h_binS, ↓h_binP, ↓h_un, ↓h_content, ↓h_bound, ↓h_part, ↓h_iadd, ↓h_isub, ↓h_imul, ↓h_iquo, ↓h_irem, ↓h_iand, ↓h_ior, ↓h_ixor, ↓h_iandNot, ↓h_ishl, ↓h_ishr, ↓h_ieql, ↓h_ineq, ↓h_ilss, ↓h_ileq, ↓h_igtr, ↓h_igeq, ↓h_call0, ↓h_callM0, ↓h_call1, ↓h_callM1, ↓h_call2, ↓h_callM2, ↓h_call3, ↓h_callM3, ↓h_call4, ↓h_callM4, ↓h_call5, ↓h_callM5, ↓h_call6, ↓h_callM6, ↓h_hit, ↓h_miss, ↓h_sData, ↓h_rds0, ↓h_rds1, ↓h_rdv, ↓h_rds, ↓h_rdr, ↓h_frzs0, ↓h_frzs1, ↓h_fzsl, ↓h_fzp, ↓h_fzi, ↓h_fznils, ↓h_fzrsl, ↓h_fzrcs, ↓h_fzrpi, ↓h_fzrpc, ↓h_fzint, ↓h_fzbool, ↓h_fzstr, ↓h_fzints, ↓h_fznilp, ↓h_fzagg, ↓h_build0, ↓h_build1, ↓h_build2, ↓h_fill0, ↓h_fill1, ↓y_skip, ↓y_seq, ↓y_ops, ↓y_opsC, ↓z_condT, ↓z_condF, ↓z_condAny, setX_t, ↓y_block, ↓y_exit, ↓y_ret, ↓r_nil, ↓r_g0, ↓r_g1, ↓z_gHit, ↓z_gMiss, ↓z_gTup, ↓z_gAny, Wi_app, ↓y_loop, ↓x_mov, ↓x_movS, ↓z_pickT, ↓z_pickF, ↓x_pick, ↓x_alloc, ↓x_box, ↓x_build, ↓x_bsl, ↓x_load, ↓x_loadN, ↓x_store, ↓x_storeN, ↓x_bin, ↓x_binB, ↓x_binS, ↓x_binP, ↓x_eqf, ↓x_un, ↓x_conv, ↓x_s2b, ↓x_b2s, ↓x_mks, ↓x_slcA, ↓x_slcS, ↓x_slcStr, ↓x_fldA, ↓x_fld, ↓x_idxA, ↓x_idxS, ↓x_idxV, ↓x_ext, ↓x_len, ↓x_lenS, ↓x_lenA, ↓x_app, ↓x_appZ, ↓x_eqnS, ↓h_appK, ↓x_copy, ↓x_mm, ↓x_nck, ↓x_mark, ↓x_idxStr, ev_t, ev_c, evs, evp, mkB, repB, fill, blen, apS_nil, apS_cons, apN_nil, apN_cons, put_some, put_none, upd_0, upd_s, updB_0, updB_s, nth_0, nth_s, nthB_0, nthB_s, ↓thenQ_n, ↓thenQ_e, ↓thenQ_r, ↓blockQ_n, ↓blockQ_e, ↓blockQ_r, ↓retQ, res, resAll, resOne, kill, apartOk, exp, injV, injB, pur, purs, purR, pursR, List.set_cons_zero, List.set_cons_succ, List.length_cons, List.length_nil, List.cons_append, List.nil_append, List.append_nil, List.append_assoc, List.length_append, List.reduceReplicate, Nat.reduceAdd, Nat.reduceMul, Nat.reduceSub, Nat.reduceEqDiff, Nat.reduceLT, Nat.zero_add, Nat.add_zero, Nat.mul_one, Int.reduceToNat, Int.toNat_natCast, Int.reduceLE, Int.reduceLT, Int.reduceEq, reduceCtorEq, ↓reduceIte, Bool.true_eq_false, Bool.false_eq_true, Bool.not_true, Bool.not_false, true_and, and_true, and_assoc, dig_length, sub_own, sub_dig, sub_rep, List.length_replicate, Nat.le_refl, forall_const, false_implies, true_implies, ne_eq, not_true_eq_false, not_false_eq_true, decide_true, decide_false, decide_eq_true_eq, decide_eq_false_iff_not, Bool.not_eq_true', Bool.not_eq_false', implies_true]
      rw [wu64 (by omega) (by omega)]
      repeat (refine And.intro (by first | omega | rfl) ?_)
      refine ⟨(k + 1, o'.set (i + k) (getI o' (i + k) + getI a i * getI b k)), hK' _ ⟨by simp only []; omega, by simpa using g2, fun t => ?_, fun t ht => ?_, ?_⟩ (by simp only []; omega), rfl⟩
      · simp only [getI_set _ _ _ _ (show i + k < o'.length by omega)]
        have := g3 t
        split <;> omega
      · simp only [] at ht
        simp only [getI_set _ _ _ _ (show i + k < o'.length by omega)]
        rw [if_neg (by omega)]
        exact g4 t (by omega)
      · simp only []
        rw [val_set _ _ _ _ (by omega), g5, val_take_succ', Int.mul_add (getI a i), Int.mul_add (65536 ^ i), Int.pow_add]
        have e1 : getI o' (i + k) + getI a i * getI b k - getI o' (i + k) = getI a i * getI b k := by omega
        rw [e1, Int.mul_assoc, Int.mul_left_comm (65536 ^ k), Int.add_assoc]
    · have hk : k = b.length := by omega
      subst hk
      rw [w64_inc (by omega)]
      refine ⟨(i + 1, o'), hK _ ⟨by simp only []; omega, g2, fun t => ?_, ?_⟩ (by simp only []; omega), rfl⟩
      · have := g3 t
        simp only []; omega
      · simp only []
        rw [g5, List.take_length, val_take_succ', Int.add_mul, Int.mul_assoc]
  · have hi : i = a.length := by omega
    subst hi
    rw [List.take_length] at h4
    repeat (refine And.intro (by first | omega | rfl) ?_)
    refine awp_loopK hA (fun x : Nat × Int × List Int => ⟨[.undef, .undef, .undef, .undef, .undef, .slice 6 0 1 n n, .undef, .undef, .slice 7 0 1 n n, .int .u64 x.2.1, .int .i64 x.1] ++ List.replicate 65 .undef, [.ints true .u32 ord, .dead, .dead, .dead, .ints true .u32 a, .ints true .u32 b, .ints false .u64 o, .ints false .u32 x.2.2]⟩)
      (fun x => x.1 ≤ n ∧ 0 ≤ x.2.1 ∧ x.2.1 ≤ 562949953421312 ∧ x.2.2.length = n ∧ Dig 65536 x.2.2 ∧ val 65536 (x.2.2.take x.1) + x.2.1 * 65536 ^ x.1 = val 65536 (o.take x.1)) (fun x => n - x.1) (0, 0, List.replicate n 0) (by simp only [↓h_bin, ↓h_binB, ↓h_binS, ↓h_binP, ↓h_un, ↓h_content, ↓h_bound, ↓h_part, ↓h_iadd, ↓h_isub, ↓h_imul, ↓h_iquo, ↓h_irem, ↓h_iand, ↓h_ior, ↓h_ixor, ↓h_iandNot, ↓h_ishl, ↓h_ishr, ↓h_ieql, ↓h_ineq, ↓h_ilss, ↓h_ileq, ↓h_igtr, ↓h_igeq, ↓h_call0, ↓h_callM0, ↓h_call1, ↓h_callM1, ↓h_call2, ↓h_callM2, ↓h_call3, ↓h_callM3, ↓h_call4, ↓h_callM4, ↓h_call5, ↓h_callM5, ↓h_call6, ↓h_callM6, ↓h_hit, ↓h_miss, ↓h_sData, ↓h_rds0, ↓h_rds1, ↓h_rdv, ↓h_rds, ↓h_rdr, ↓h_frzs0, ↓h_frzs1, ↓h_fzsl, ↓h_fzp, ↓h_fzi, ↓h_fznils, ↓h_fzrsl, ↓h_fzrcs, ↓h_fzrpi, ↓h_fzrpc, ↓h_fzint, ↓h_fzbool, ↓h_fzstr, ↓h_fzints, ↓h_fznilp, ↓h_fzagg, ↓h_build0, ↓h_build1, ↓h_build2, ↓h_fill0, ↓h_fill1, ↓y_skip, ↓y_seq, ↓y_ops, ↓y_opsC, ↓z_condT, ↓z_condF, ↓z_condAny, setX_t, ↓y_block, ↓y_exit, ↓y_ret, ↓r_nil, ↓r_g0, ↓r_g1, ↓z_gHit, ↓z_gMiss, ↓z_gTup, ↓z_gAny, Wi_app, ↓y_loop, ↓x_mov, ↓x_movS, ↓z_pickT, ↓z_pickF, ↓x_pick, ↓x_alloc, ↓x_box, ↓x_build, ↓x_bsl, ↓x_load, ↓x_loadN, ↓x_store, ↓x_storeN, ↓x_bin, ↓x_binB, ↓x_binS, ↓x_binP, ↓x_eqf, ↓x_un, ↓x_conv, ↓x_s2b, ↓x_b2s, ↓x_mks, ↓x_slcA, ↓x_slcS, ↓x_slcStr, ↓x_fldA, ↓x_fld, ↓x_idxA, ↓x_idxS, ↓x_idxV, ↓x_ext, ↓x_len, ↓x_lenS, ↓x_lenA, ↓x_app, ↓x_appZ, ↓x_eqnS, ↓h_appK, ↓x_copy, ↓x_mm, ↓x_nck, ↓x_mark, ↓x_idxStr, ev_t, ev_c, evs, evp, mkB, repB, fill, blen, apS_nil, apS_cons, apN_nil, apN_cons, put_some, put_none, upd_0, upd_s, updB_0, updB_s, nth_0, nth_s, nthB_0, nthB_s, ↓thenQ_n, ↓thenQ_e, ↓thenQ_r, ↓blockQ_n, ↓blockQ_e, ↓blockQ_r, ↓retQ, res, resAll, resOne, kill, apartOk, exp, injV, injB, pur, purs, purR, pursR, List.set_cons_zero, List.set_cons_succ, List.length_cons, List.length_nil, List.cons_append, List.nil_append, List.append_nil, List.append_assoc, List.length_append, List.reduceReplicate, Nat.reduceAdd, Nat.reduceMul, Nat.reduceSub, Nat.reduceEqDiff, Nat.reduceLT, Nat.zero_add, Nat.add_zero, Nat.mul_one, Int.reduceToNat, Int.toNat_natCast, Int.reduceLE, Int.reduceLT, Int.reduceEq, reduceCtorEq, ↓reduceIte, Bool.true_eq_false, Bool.false_eq_true, Bool.not_true, Bool.not_false, true_and, and_true, and_assoc, dig_length, sub_own, sub_dig, sub_rep, List.length_replicate, Nat.le_refl, forall_const, false_implies, true_implies, ne_eq, not_true_eq_false, not_false_eq_true, decide_true, decide_false, decide_eq_true_eq, decide_eq_false_iff_not, Bool.not_eq_true', Bool.not_eq_false', implies_true]; rfl)
      ⟨by simp, by simp, by simp, by simp, Dig.replicate _ (by decide), by simp [val]⟩ ?_
    rintro ⟨j, c, l⟩ ⟨g1, g2, g3, g4, g5, g6⟩ K hK
    simp only [] at g1 g2 g3 g4 g5 g6
    simp only [apartOk, ↓h_bin, ↓h_binB, ↓h_binS, ↓h_binP, ↓h_un, ↓h_content, ↓h_bound, ↓h_part, ↓h_iadd, ↓h_isub, ↓h_imul, ↓h_iquo, ↓h_irem, ↓h_iand, ↓h_ior, ↓h_ixor, ↓h_iandNot, ↓h_ishl, ↓h_ishr, ↓h_ieql, ↓h_ineq, ↓h_ilss, ↓h_ileq, ↓h_igtr, ↓h_igeq, ↓h_call0, ↓h_callM0, ↓h_call1, ↓h_callM1, ↓h_call2, ↓h_callM2, ↓h_call3, ↓h_callM3, ↓h_call4, ↓h_callM4, ↓h_call5, ↓h_callM5, ↓h_call6, ↓h_callM6, ↓h_hit, ↓h_miss, ↓h_sData, ↓h_rds0, ↓h_rds1, ↓h_rdv, ↓h_rds, ↓h_rdr, ↓h_frzs0, ↓h_frzs1, ↓h_fzsl, ↓h_fzp, ↓h_fzi, ↓h_fznils, ↓h_fzrsl, ↓h_fzrcs, ↓h_fzrpi, ↓h_fzrpc, ↓h_fzint, ↓h_fzbool, ↓h_fzstr, ↓h_fzints, ↓h_fznilp, ↓h_fzagg, ↓h_build0, ↓h_build1, ↓h_build2, ↓h_fill0, ↓h_fill1, ↓y_skip, ↓y_seq, ↓y_ops, ↓y_opsC, ↓z_condT, ↓z_condF, ↓z_condAny, setX_t, ↓y_block, ↓y_exit, ↓y_ret, ↓r_nil, ↓r_g0, ↓r_g1, ↓z_gHit, ↓z_gMiss, ↓z_gTup, ↓z_gAny, Wi_app, ↓y_loop, ↓x_mov, ↓x_movS, ↓z_pickT, ↓z_pickF, ↓x_pick, ↓x_alloc, ↓x_box, ↓x_build, ↓x_bsl, ↓x_load, ↓x_loadN, ↓x_store, ↓x_storeN, ↓x_bin, ↓x_binB, ↓x_binS, ↓x_binP, ↓x_eqf, ↓x_un, ↓x_conv, ↓x_s2b, ↓x_b2s, ↓x_mks, ↓x_slcA, ↓x_slcS, ↓x_slcStr, ↓x_fldA, ↓x_fld, ↓x_idxA, ↓x_idxS, ↓x_idxV, ↓x_ext, ↓x_len, ↓x_lenS, ↓x_lenA, ↓x_app, ↓x_appZ, ↓x_eqnS, ↓h_appK, ↓x_copy, ↓x_mm, ↓x_nck, ↓x_mark, ↓x_idxStr, ev_t, ev_c, evs, evp, mkB, repB, fill, blen, apS_nil, apS_cons, apN_nil, apN_cons, put_some, put_none, upd_0, upd_s, updB_0, updB_s, nth_0, nth_s, nthB_0, nthB_s, ↓thenQ_n, ↓thenQ_e, ↓thenQ_r, ↓blockQ_n, ↓blockQ_e, ↓blockQ_r, ↓retQ, res, resAll, resOne, kill, apartOk, exp, injV, injB, pur, purs, purR, pursR, List.set_cons_zero, List.set_cons_succ, List.length_cons, List.length_nil, List.cons_append, List.nil_append, List.append_nil, List.append_assoc, List.length_append, List.reduceReplicate, Nat.reduceAdd, Nat.reduceMul, Nat.reduceSub, Nat.reduceEqDiff, Nat.reduceLT, Nat.zero_add, Nat.add_zero, Nat.mul_one, Int.reduceToNat, Int.toNat_natCast, Int.reduceLE, Int.reduceLT, Int.reduceEq, reduceCtorEq, ↓reduceIte, Bool.true_eq_false, Bool.false_eq_true, Bool.not_true, Bool.not_false, true_and, and_true, and_assoc, dig_length, sub_own, sub_dig, sub_rep, List.length_replicate, Nat.le_refl, forall_const, false_implies, true_implies, ne_eq, not_true_eq_false, not_false_eq_true, decide_true, decide_false, decide_eq_true_eq, decide_eq_false_iff_not, Bool.not_eq_true', Bool.not_eq_false', implies_true]
    refine ⟨fun hj => ?_, fun hj => ?_⟩
    · have hj : j < n := by omega
      have ho := h3 j
      rw [wu64 (n := c + _) (by omega) (by omega), bAnd_ffff64 (by omega) (by omega), w64_inc (by omega), wu32 (by omega) (by omega)]
      repeat (refine And.intro (by first | omega | rfl) ?_)
      refine ⟨(j + 1, iShr .u64 (c + getI o j) 16, l.set j ((c + getI o j) % 65536)), hK _ ⟨by simp only []; omega, ?_, ?_, by simpa using g4, g5.set j (by omega) (by omega), ?_⟩ (by simp only []; omega), rfl⟩
      all_goals simp only [wrap_u8, wrap_u16, wrap_u32, wrap_u64, iShr_eq, Go.IntKind.bits, Int.reduceToNat, Int.toNat_natCast, Nat.min_def, Nat.reduceLeDiff, reduceIte, Int.reducePow]
      · omega
      · omega
      · rw [val_take_set 65536 _ (by omega), val_take_succ', Int.pow_succ]
        generalize (65536 : Int) ^ j = p at *
        have e1 : (c + getI o j) % 65536 = c + getI o j - (c + getI o j) / 65536 * 65536 := by omega
        rw [e1, Int.mul_sub, Int.mul_add, Int.mul_left_comm p ((c + getI o j) / 65536), Int.mul_comm p c]
        omega
    · have hj : j = n := by omega
      subst hj
      rw [List.take_of_length_le (by omega), List.take_of_length_le (by omega), h4] at g6
      simp only [out, outs, out1, pur, purs, nthB_0, nthB_s, List.not_mem_nil, not_false_eq_true, true_and, and_true, Nat.reduceLeDiff, Nat.le_refl]
      refine ⟨by omega, ?_⟩
      rw [sub_zero g4]
      exact dig_of_mod (by decide) g5 g4 (-c) (by rw [Int.neg_mul]; omega)
end Am
set_option linter.unusedSimpArgs false
set_option linter.unusedVariables false
set_option maxRecDepth 20000
namespace Am
open Go.Proofs
theorem mod_step (m y bit : Int) : (2 * (y % m) + bit) % m = (2 * y + bit) % m := by
  rw [Int.add_emod, Int.mul_emod, Int.emod_emod_of_dvd _ (Int.dvd_refl _), ← Int.mul_emod, ← Int.add_emod]
theorem mod_red {m x : Int} (h0 : 0 ≤ x) (h1 : x < 2 * m) (h : m ≤ x) : x % m = x - m := by
  rw [← Int.sub_emod_right x m]
  exact Int.emod_eq_of_lt (by omega) (by omega)
theorem mod_bd {m : Int} (h : 0 < m) (y : Int) : 0 ≤ y % m ∧ y % m < m := ⟨Int.emod_nonneg _ (by omega), Int.emod_lt_of_pos _ h⟩
theorem half_up (x : Int) (i : Nat) : x / 2 ^ i = 2 * (x / 2 ^ (i + 1)) + x / 2 ^ i % 2 := by
  rw [Int.pow_succ, ← Int.ediv_ediv_of_nonneg (Int.le_of_lt (Int.pow_pos (by decide)))]
  omega
def pre21 (ds : List D) : Prop := ∃ a m, ds = [.s .u32 a, .s .u32 m] ∧ Dig 65536 a ∧ Dig 65536 m ∧ a.length ≤ 4294967296 ∧ m.length ≤ 16 ∧ 0 < val 65536 m
def F21 : List D → Out
  | [.s _ a, .s _ m] => .one (.s .u32 (dig 65536 17 (val 65536 a % val 65536 m)))
  | _ => bad
def s21 : Summ := sData [.s .u32, .s .u32] pre21 F21
theorem ok21 : SumOK Tryd.prog gl 21 s21 ∧ SumAbs s21 := by
  refine fsum (l := [(27, s27), (13, s13), (19, s19)]) mixed gl_plain rfl Tryd.func21 comp21 compR21 nt21 (by simp only [List.mem_cons, List.not_mem_nil, or_false, forall_eq_or_imp, forall_eq]; exact ⟨ok27, ok13, ok19⟩) fun ds ⟨a, m, hd, ha, hm, hal, hml, hm0⟩ hA => ?_
  subst hd
  simp only [s27, s13, s19]
  simp only [ir21, rs21, gl, F21, s27, s13, s19, F27, F13, F19, ↓h_bin, ↓h_binB, ↓h_binS, ↓h_binP, ↓h_un, ↓h_content, ↓h_bound, ↓h_part, ↓h_iadd, ↓h_isub, ↓h_imul, ↓h_iquo, ↓h_irem, ↓h_iand, ↓h_ior, ↓h_ixor, ↓h_iandNot, ↓h_ishl, ↓h_ishr, ↓h_ieql, ↓h_ineq, ↓h_ilss, ↓h_ileq, ↓h_igtr, ↓h_igeq, ↓h_call0, ↓h_callM0, ↓h_call1, ↓h_callM1, ↓h_call2, ↓h_callM2, ↓h_call3, ↓h_callM3, ↓h_call4, ↓h_callM4, ↓h_call5, ↓h_callM5, ↓h_call6, ↓h_callM6, ↓h_hit, ↓h_miss, ↓h_sData, ↓h_rds0, ↓h_rds1, ↓h_rdv, ↓h_rds, ↓h_rdr, ↓h_frzs0, ↓h_frzs1, ↓h_fzsl, ↓h_fzp, ↓h_fzi, ↓h_fznils, ↓h_fzrsl, ↓h_fzrcs, ↓h_fzrpi, ↓h_fzrpc, ↓h_fzint, ↓h_fzbool, ↓h_fzstr, ↓h_fzints, ↓h_fznilp, ↓h_fzagg, ↓h_build0, ↓h_build1, ↓h_build2, ↓h_fill0, ↓h_fill1, ↓y_skip, ↓y_seq, ↓y_ops, ↓y_opsC, ↓z_condT, ↓z_condF, ↓z_condAny, setX_t, ↓y_block, ↓y_exit, ↓y_ret, ↓r_nil, ↓r_g0, ↓r_g1, ↓z_gHit, ↓z_gMiss, ↓z_gTup, ↓z_gAny, Wi_app, ↓y_loop, ↓x_mov, ↓x_movS, ↓z_pickT, ↓z_pickF, ↓x_pick, ↓x_alloc, ↓x_box, ↓x_build, ↓x_bsl, ↓x_load, ↓x_loadN, ↓x_store, ↓x_storeN, ↓x_bin, ↓x_binB, ↓x_binS, ↓x_binP, ↓x_eqf, ↓x_un, ↓x_conv, ↓x_s2b, ↓x_b2s, ↓x_mks, ↓x_slcA, ↓x_slcS, ↓x_slcStr, ↓x_fldA, ↓x_fld, ↓x_idxA, ↓x_idxS, ↓x_idxV, ↓x_ext, ↓x_len, ↓x_lenS, ↓x_lenA, ↓x_app, ↓x_appZ, ↓x_eqnS, ↓h_appK, ↓x_copy, ↓x_mm, ↓x_nck, ↓x_mark, ↓x_idxStr, ev_t, ev_c, evs, evp, mkB, repB, fill, blen, apS_nil, apS_cons, apN_nil, apN_cons, put_some, put_none, upd_0, upd_s, updB_0, updB_s, nth_0, nth_s, nthB_0, nthB_s, ↓thenQ_n, ↓thenQ_e, ↓thenQ_r, ↓blockQ_n, ↓blockQ_e, ↓blockQ_r, ↓retQ, res, resAll, resOne, kill, apartOk, exp, injV, injB, pur, purs, purR, pursR, List.set_cons_zero, List.set_cons_succ, List.length_cons, List.length_nil, List.cons_append, List.nil_append, List.append_nil, List.append_assoc, List.length_append, List.reduceReplicate, Nat.reduceAdd, Nat.reduceMul, Nat.reduceSub, Nat.reduceEqDiff, Nat.reduceLT, Nat.zero_add, Nat.add_zero, Nat.mul_one, Int.reduceToNat, Int.toNat_natCast, Int.reduceLE, Int.reduceLT, Int.reduceEq, reduceCtorEq, ↓reduceIte, Bool.true_eq_false, Bool.false_eq_true, Bool.not_true, Bool.not_false, true_and, and_true, and_assoc, dig_length, sub_own, sub_dig, sub_rep, List.length_replicate, Nat.le_refl, forall_const, false_implies, true_implies, ne_eq, not_true_eq_false, not_false_eq_true, decide_true, decide_false, decide_eq_true_eq, decide_eq_false_iff_not, Bool.not_eq_true', Bool.not_eq_false', implies_true]
  have hn : Go.IntKind.i64.wrap (Go.IntKind.i64.wrap (16 * (a.length : Int)) - 1) = ((16 * a.length : Nat) : Int) - 1 := by rw [wrap_i64, wrap_i64]; omega
  rw [hn]
  have hmb := val_lt_pow (by decide : (0 : Int) < 65536) hm hml
  have hav := val_bound (by decide : (0 : Int) < 65536) ha
  have hbd := mod_bd hm0
  have h17 : (65536 : Int) ^ 17 = 65536 * 65536 ^ 16 := by decide
  generalize hM : val 65536 m = M at *
  have vd : ∀ y, val 65536 (dig 65536 17 (y % M)) = y % M := fun y => by have := hbd y; exact val_dig (by decide) this.1 (by rw [h17]; omega)
  have vd2 : ∀ y, 0 ≤ y → y < 2 * M → val 65536 (dig 65536 17 y) = y := fun y h0 h1 => val_dig (by decide) h0 (by rw [h17]; omega)
  repeat (refine And.intro (by first | omega | rfl) ?_)
  refine awp_loopG hA (fun n : Nat => ⟨[.slice 4 0 1 a.length a.length, .slice 5 0 1 m.length m.length, .undef, .undef, .undef, .slice 6 0 1 17 17, .int .i64 (n - 1)] ++ List.replicate 28 .undef, [.ints true .u32 ord, .dead, .dead, .dead, .ints true .u32 a, .ints true .u32 m, .ints false .u32 (dig 65536 17 ((val 65536 a / 2 ^ n) % M))]⟩)
    (fun n => n ≤ 16 * a.length) (fun n => n) (16 * a.length) (.inl ?_) (Nat.le_refl _) fun n hn' K hK => ?_
  · have e : val 65536 a / 2 ^ (16 * a.length) = 0 := by
      rw [Int.pow_mul]; exact Int.ediv_eq_zero_of_lt hav.1 hav.2
    simp only [e, Int.zero_emod, dig_zero, ↓h_bin, ↓h_binB, ↓h_binS, ↓h_binP, ↓h_un, ↓h_content, ↓h_bound, ↓h_part, ↓h_iadd, ↓h_isub, ↓h_imul, ↓h_iquo, ↓h_irem, ↓h_iand, ↓h_ior, ↓h_ixor, ↓h_iandNot, ↓h_ishl, ↓h_ishr, ↓h_ieql, ↓h_ineq, ↓h_ilss, ↓h_ileq, ↓h_igtr, ↓h_igeq, ↓h_call0, ↓h_callM0, ↓h_call1, ↓h_callM1, ↓h_call2, ↓h_callM2, ↓h_call3, ↓h_callM3, ↓h_call4, ↓h_callM4, ↓h_call5, ↓h_callM5, ↓h_call6, ↓h_callM6, ↓h_hit, ↓h_miss, ↓h_sData, ↓h_rds0, ↓h_rds1, ↓h_rdv, ↓h_rds, ↓h_rdr, ↓h_frzs0, ↓h_frzs1, ↓h_fzsl, ↓h_fzp, ↓h_fzi, ↓h_fznils, ↓h_fzrsl, ↓h_fzrcs, ↓h_fzrpi, ↓h_fzrpc, ↓h_fzint, ↓h_fzbool, ↓h_fzstr, ↓h_fzints, ↓h_fznilp, ↓h_fzagg, ↓h_build0, ↓h_build1, ↓h_build2, ↓h_fill0, ↓h_fill1, ↓y_skip, ↓y_seq, ↓y_ops, ↓y_opsC, ↓z_condT, ↓z_condF, ↓z_condAny, setX_t, ↓y_block, ↓y_exit, ↓y_ret, ↓r_nil, ↓r_g0, ↓r_g1, ↓z_gHit, ↓z_gMiss, ↓z_gTup, ↓z_gAny, Wi_app, ↓y_loop, ↓x_mov, ↓x_movS, ↓z_pickT, ↓z_pickF, ↓x_pick, ↓x_alloc, ↓x_box, ↓x_build, ↓x_bsl, ↓x_load, ↓x_loadN, ↓x_store, ↓x_storeN, ↓x_bin, ↓x_binB, ↓x_binS, ↓x_binP, ↓x_eqf, ↓x_un, ↓x_conv, ↓x_s2b, ↓x_b2s, ↓x_mks, ↓x_slcA, ↓x_slcS, ↓x_slcStr, ↓x_fldA, ↓x_fld, ↓x_idxA, ↓x_idxS, ↓x_idxV, ↓x_ext, ↓x_len, ↓x_lenS, ↓x_lenA, ↓x_app, ↓x_appZ, ↓x_eqnS, ↓h_appK, ↓x_copy, ↓x_mm, ↓x_nck, ↓x_mark, ↓x_idxStr, ev_t, ev_c, evs, evp, mkB, repB, fill, blen, apS_nil, apS_cons, apN_nil, apN_cons, put_some, put_none, upd_0, upd_s, updB_0, updB_s, nth_0, nth_s, nthB_0, nthB_s, ↓thenQ_n, ↓thenQ_e, ↓thenQ_r, ↓blockQ_n, ↓blockQ_e, ↓blockQ_r, ↓retQ, res, resAll, resOne, kill, apartOk, exp, injV, injB, pur, purs, purR, pursR, List.set_cons_zero, List.set_cons_succ, List.length_cons, List.length_nil, List.cons_append, List.nil_append, List.append_nil, List.append_assoc, List.length_append, List.reduceReplicate, Nat.reduceAdd, Nat.reduceMul, Nat.reduceSub, Nat.reduceEqDiff, Nat.reduceLT, Nat.zero_add, Nat.add_zero, Nat.mul_one, Int.reduceToNat, Int.toNat_natCast, Int.reduceLE, Int.reduceLT, Int.reduceEq, reduceCtorEq, ↓reduceIte, Bool.true_eq_false, Bool.false_eq_true, Bool.not_true, Bool.not_false, true_and, and_true, and_assoc, dig_length, sub_own, sub_dig, sub_rep, List.length_replicate, Nat.le_refl, forall_const, false_implies, true_implies, ne_eq, not_true_eq_false, not_false_eq_true, decide_true, decide_false, decide_eq_true_eq, decide_eq_false_iff_not, Bool.not_eq_true', Bool.not_eq_false', implies_true]
  · simp only [s27, s13, s19, F27, F13, F19, ↓h_bin, ↓h_binB, ↓h_binS, ↓h_binP, ↓h_un, ↓h_content, ↓h_bound, ↓h_part, ↓h_iadd, ↓h_isub, ↓h_imul, ↓h_iquo, ↓h_irem, ↓h_iand, ↓h_ior, ↓h_ixor, ↓h_iandNot, ↓h_ishl, ↓h_ishr, ↓h_ieql, ↓h_ineq, ↓h_ilss, ↓h_ileq, ↓h_igtr, ↓h_igeq, ↓h_call0, ↓h_callM0, ↓h_call1, ↓h_callM1, ↓h_call2, ↓h_callM2, ↓h_call3, ↓h_callM3, ↓h_call4, ↓h_callM4, ↓h_call5, ↓h_callM5, ↓h_call6, ↓h_callM6, ↓h_hit, ↓h_miss, ↓h_sData, ↓h_rds0, ↓h_rds1, ↓h_rdv, ↓h_rds, ↓h_rdr, ↓h_frzs0, ↓h_frzs1, ↓h_fzsl, ↓h_fzp, ↓h_fzi, ↓h_fznils, ↓h_fzrsl, ↓h_fzrcs, ↓h_fzrpi, ↓h_fzrpc, ↓h_fzint, ↓h_fzbool, ↓h_fzstr, ↓h_fzints, ↓h_fznilp, ↓h_fzagg, ↓h_build0, ↓h_build1, ↓h_build2, ↓h_fill0, ↓h_fill1, ↓y_skip, ↓y_seq, ↓y_ops, ↓y_opsC, ↓z_condT, ↓z_condF, ↓z_condAny, setX_t, ↓y_block, ↓y_exit, ↓y_ret, ↓r_nil, ↓r_g0, ↓r_g1, ↓z_gHit, ↓z_gMiss, ↓z_gTup, ↓z_gAny, Wi_app, ↓y_loop, ↓x_mov, ↓x_movS, ↓z_pickT, ↓z_pickF, ↓x_pick, ↓x_alloc, ↓x_box, ↓x_build, ↓x_bsl, ↓x_load, ↓x_loadN, ↓x_store, ↓x_storeN, ↓x_bin, ↓x_binB, ↓x_binS, ↓x_binP, ↓x_eqf, ↓x_un, ↓x_conv, ↓x_s2b, ↓x_b2s, ↓x_mks, ↓x_slcA, ↓x_slcS, ↓x_slcStr, ↓x_fldA, ↓x_fld, ↓x_idxA, ↓x_idxS, ↓x_idxV, ↓x_ext, ↓x_len, ↓x_lenS, ↓x_lenA, ↓x_app, ↓x_appZ, ↓x_eqnS, ↓h_appK, ↓x_copy, ↓x_mm, ↓x_nck, ↓x_mark, ↓x_idxStr, ev_t, ev_c, evs, evp, mkB, repB, fill, blen, apS_nil, apS_cons, apN_nil, apN_cons, put_some, put_none, upd_0, upd_s, updB_0, updB_s, nth_0, nth_s, nthB_0, nthB_s, ↓thenQ_n, ↓thenQ_e, ↓thenQ_r, ↓blockQ_n, ↓blockQ_e, ↓blockQ_r, ↓retQ, res, resAll, resOne, kill, apartOk, exp, injV, injB, pur, purs, purR, pursR, List.set_cons_zero, List.set_cons_succ, List.length_cons, List.length_nil, List.cons_append, List.nil_append, List.append_nil, List.append_assoc, List.length_append, List.reduceReplicate, Nat.reduceAdd, Nat.reduceMul, Nat.reduceSub, Nat.reduceEqDiff, Nat.reduceLT, Nat.zero_add, Nat.add_zero, Nat.mul_one, Int.reduceToNat, Int.toNat_natCast, Int.reduceLE, Int.reduceLT, Int.reduceEq, reduceCtorEq, ↓reduceIte, Bool.true_eq_false, Bool.false_eq_true, Bool.not_true, Bool.not_false, true_and, and_true, and_assoc, dig_length, sub_own, sub_dig, sub_rep, List.length_replicate, Nat.le_refl, forall_const, false_implies, true_implies, ne_eq, not_true_eq_false, not_false_eq_true, decide_true, decide_false, decide_eq_true_eq, decide_eq_false_iff_not, Bool.not_eq_true', Bool.not_eq_false', implies_true]
    refine ⟨fun hi => ?_, fun hi => ?_⟩
    · obtain ⟨i, rfl⟩ : ∃ i, n = i + 1 := ⟨n - 1, by omega⟩
      have e1 : (((i + 1 : Nat) : Int) - 1) = (i : Int) := by omega
      have hai := ha.get (show i / 16 < a.length by omega)
      have hbit : bAnd .u32 (iShr .u32 (getI a (i / 16)) ((i % 16 : Nat) : Int)) 1 = val 65536 a / 2 ^ i % 2 := by
        have h2 : (0 : Int) < 2 ^ (i % 16) := Int.pow_pos (by decide)
        rw [← bit_of16 ha, iShr_eq, Int.toNat_natCast, Nat.min_eq_left (by simp only [Go.IntKind.bits]; omega)]
        exact bAnd_one32 (Int.ediv_nonneg hai.1 (by omega)) (Int.lt_of_le_of_lt (Int.ediv_le_self _ hai.1) (by omega))
      rw [e1, w64_div16 (by omega), tmod16, w64_dec (by omega)]
      simp only [hbit, vd, hM, Int.toNat_natCast]
      have hb := hbd (val 65536 a / 2 ^ (i + 1))
      rw [vd2 _ (by omega) (by omega)]
      have hs := half_up (val 65536 a) i
      have hst := mod_step M (val 65536 a / 2 ^ (i + 1)) (val 65536 a / 2 ^ i % 2)
      rw [← hs] at hst
      repeat (refine And.intro (by first | omega | rfl) ?_)
      refine ⟨⟨_, _, rfl, dig_dig (by decide) _ _, by simp [dig_length], by omega, by omega⟩, ?_⟩
      refine ⟨⟨_, _, rfl, dig_dig (by decide) _ _, hm, by simp [dig_length], by omega⟩, fun hlt => ?_, fun hlt => ?_⟩
      · refine ⟨⟨_, _, rfl, dig_dig (by decide) _ _, hm, by simp [dig_length], by omega⟩, i, hK _ (by omega) (by omega), Weak.of [0, 1, 2, 3, 4, 5, 8] (by decide) (by decide) (by simp) ?_⟩
        rw [← hst, mod_red (x := 2 * _ + _) (by omega) (by omega) (by omega)]
        rfl
      · refine ⟨i, hK _ (by omega) (by omega), Weak.of [0, 1, 2, 3, 4, 5, 7] (by decide) (by decide) (by simp) ?_⟩
        rw [← hst, Int.emod_eq_of_lt (by omega) (by omega)]
        rfl
    · have : n = 0 := by omega
      subst this
      simp only [out, outs, out1, pur, purs, nthB_0, nthB_s, List.not_mem_nil, not_false_eq_true, true_and, and_true, Nat.reduceLeDiff, Nat.le_refl, Int.pow_zero, Int.ediv_one, sub_dig, dig_length]
end Am
set_option linter.unusedSimpArgs false
set_option linter.unusedVariables false
set_option maxRecDepth 20000
namespace Am
open Go.Proofs
theorem Ls_len : Ls.length = 16 := rfl
theorem val_rest {x : Int} : val 65536 (dig 65536 17 (x % Lo)) = x % Lo := by
  have := mod_bd (by decide : (0 : Int) < Lo) x
  have h2 : Lo < 65536 ^ 17 := by decide
  exact val_dig (by decide) this.1 (by omega)
theorem val_of {b : List Int} (hb : Dig 256 b) : val 65536 (dig 65536 ((b.length + 1) / 2) (val 256 b)) = val 256 b := by
  have h1 := val_bound (by decide : (0 : Int) < 256) hb
  have e : (65536 : Int) ^ ((b.length + 1) / 2) = 256 ^ (2 * ((b.length + 1) / 2)) := by rw [Int.pow_mul]; rfl
  have h2 := val_lt_pow (by decide : (0 : Int) < 256) hb (n := 2 * ((b.length + 1) / 2)) (by omega)
  exact val_dig (by decide) h1.1 (by rw [e]; exact h2)
def pre11 (ds : List D) : Prop := ∃ b, ds = [.s .u8 b] ∧ Dig 256 b ∧ b.length ≤ 65536
def F11 : List D → Out
  | [.s _ b] => .one (.v (.ints .u8 (red b)))
  | _ => bad
def s11 : Summ := sData [.s .u8] pre11 F11
theorem ok11 : SumOK Tryd.prog gl 11 s11 ∧ SumAbs s11 := by
  refine fsum (l := [(14, s14), (15, s15), (21, s21), (20, s20)]) mixed gl_plain rfl Tryd.func11 comp11 compR11 nt11 (by simp only [List.mem_cons, List.not_mem_nil, or_false, forall_eq_or_imp, forall_eq]; exact ⟨ok14, ok15, ok21, ok20⟩) fun ds ⟨b, hd, hb, hbl⟩ hA => ?_
  subst hd
  simp only [s14, s15, s21, s20]
  simp only [ir11, rs11, gl, F11, s14, s15, s21, s20, F14, F15, F21, F20, val_Ls, val_rest, val_of hb, sub_zero, spl_all, dig_length, List.length_cons, List.length_nil, Nat.reduceAdd, Nat.le_refl, Nat.reduceLeDiff, Nat.reduceLT, true_and, and_true, ↓h_bin, ↓h_binB, ↓h_binS, ↓h_binP, ↓h_un, ↓h_content, ↓h_bound, ↓h_part, ↓h_iadd, ↓h_isub, ↓h_imul, ↓h_iquo, ↓h_irem, ↓h_iand, ↓h_ior, ↓h_ixor, ↓h_iandNot, ↓h_ishl, ↓h_ishr, ↓h_ieql, ↓h_ineq, ↓h_ilss, ↓h_ileq, ↓h_igtr, ↓h_igeq, ↓h_call0, ↓h_callM0, ↓h_call1, ↓h_callM1, ↓h_call2, ↓h_callM2, ↓h_call3, ↓h_callM3, ↓h_call4, ↓h_callM4, ↓h_call5, ↓h_callM5, ↓h_call6, ↓h_callM6, ↓h_hit, ↓h_miss, ↓h_sData, ↓h_rds0, ↓h_rds1, ↓h_rdv, ↓h_rds, ↓h_rdr, ↓h_frzs0, ↓h_frzs1, ↓h_fzsl, ↓h_fzp, ↓h_fzi, ↓h_fznils, ↓h_fzrsl, ↓h_fzrcs, ↓h_fzrpi, ↓h_fzrpc, ↓h_fzint, ↓h_fzbool, ↓h_fzstr, ↓h_fzints, ↓h_fznilp, ↓h_fzagg, ↓h_build0, ↓h_build1, ↓h_build2, ↓h_fill0, ↓h_fill1, ↓y_skip, ↓y_seq, ↓y_ops, ↓y_opsC, ↓z_condT, ↓z_condF, ↓z_condAny, setX_t, ↓y_block, ↓y_exit, ↓y_ret, ↓r_nil, ↓r_g0, ↓r_g1, ↓z_gHit, ↓z_gMiss, ↓z_gTup, ↓z_gAny, Wi_app, ↓y_loop, ↓x_mov, ↓x_movS, ↓z_pickT, ↓z_pickF, ↓x_pick, ↓x_alloc, ↓x_box, ↓x_build, ↓x_bsl, ↓x_load, ↓x_loadN, ↓x_store, ↓x_storeN, ↓x_bin, ↓x_binB, ↓x_binS, ↓x_binP, ↓x_eqf, ↓x_un, ↓x_conv, ↓x_s2b, ↓x_b2s, ↓x_mks, ↓x_slcA, ↓x_slcS, ↓x_slcStr, ↓x_fldA, ↓x_fld, ↓x_idxA, ↓x_idxS, ↓x_idxV, ↓x_ext, ↓x_len, ↓x_lenS, ↓x_lenA, ↓x_app, ↓x_appZ, ↓x_eqnS, ↓h_appK, ↓x_copy, ↓x_mm, ↓x_nck, ↓x_mark, ↓x_idxStr, ev_t, ev_c, evs, evp, mkB, repB, fill, blen, apS_nil, apS_cons, apN_nil, apN_cons, put_some, put_none, upd_0, upd_s, updB_0, updB_s, nth_0, nth_s, nthB_0, nthB_s, ↓thenQ_n, ↓thenQ_e, ↓thenQ_r, ↓blockQ_n, ↓blockQ_e, ↓blockQ_r, ↓retQ, res, resAll, resOne, kill, apartOk, exp, injV, injB, pur, purs, purR, pursR, List.set_cons_zero, List.set_cons_succ, List.length_cons, List.length_nil, List.cons_append, List.nil_append, List.append_nil, List.append_assoc, List.length_append, List.reduceReplicate, Nat.reduceAdd, Nat.reduceMul, Nat.reduceSub, Nat.reduceEqDiff, Nat.reduceLT, Nat.zero_add, Nat.add_zero, Nat.mul_one, Int.reduceToNat, Int.toNat_natCast, Int.reduceLE, Int.reduceLT, Int.reduceEq, reduceCtorEq, ↓reduceIte, Bool.true_eq_false, Bool.false_eq_true, Bool.not_true, Bool.not_false, true_and, and_true, and_assoc, dig_length, sub_own, sub_dig, sub_rep, List.length_replicate, Nat.le_refl, forall_const, false_implies, true_implies, ne_eq, not_true_eq_false, not_false_eq_true, decide_true, decide_false, decide_eq_true_eq, decide_eq_false_iff_not, Bool.not_eq_true', Bool.not_eq_false', implies_true]
  repeat (refine And.intro (by first | omega | rfl) ?_)
  refine ⟨⟨_, rfl, hb, hbl⟩, rfl, ⟨_, _, rfl, dig_dig (by decide) _ _, Ls_dig, by simp [dig_length]; omega, by decide, by decide⟩, ⟨_, rfl, dig_dig (by decide) _ _⟩, ?_⟩
  exact out_ints rfl
def pre23 (ds : List D) : Prop := ∃ a b c, ds = [.v (.ints .u8 a), .v (.ints .u8 b), .v (.ints .u8 c)] ∧ Key a ∧ Key b ∧ Key c
def F23 : List D → Out
  | [.v (.ints _ a), .v (.ints _ b), .v (.ints _ c)] => .one (.v (.ints .u8 (muladd a b c)))
  | _ => bad
def s23 : Summ := sData [.v, .v, .v] pre23 F23
theorem ok23 : SumOK Tryd.prog gl 23 s23 ∧ SumAbs s23 := by
  refine fsum (l := [(14, s14), (15, s15), (21, s21), (20, s20), (16, s16), (18, s18)]) mixed gl_plain rfl Tryd.func23 comp23 compR23 nt23 (by simp only [List.mem_cons, List.not_mem_nil, or_false, forall_eq_or_imp, forall_eq]; exact ⟨ok14, ok15, ok21, ok20, ok16, ok18⟩) fun ds ⟨a, b, c, hd, ⟨ha, haw⟩, ⟨hb, hbw⟩, ⟨hc, hcw⟩⟩ hA => ?_
  subst hd
  simp only [s14, s15, s21, s20, s16, s18]
  have sa : sub a 0 32 = a := sub_zero ha
  have sb : sub b 0 32 = b := sub_zero hb
  have sc : sub c 0 32 = c := sub_zero hc
  have va := val_of haw
  have vb := val_of hbw
  have vc := val_of hcw
  rw [ha] at va
  rw [hb] at vb
  rw [hc] at vc
  simp only [Nat.reduceAdd, Nat.reduceDiv] at va vb vc
  have ba := val_lt_pow (by decide : (0 : Int) < 256) haw (n := 32) (by omega)
  have bb := val_lt_pow (by decide : (0 : Int) < 256) hbw (n := 32) (by omega)
  have bc := val_lt_pow (by decide : (0 : Int) < 256) hcw (n := 32) (by omega)
  have na := val_nonneg (by decide : (0 : Int) < 256) haw
  have nb := val_nonneg (by decide : (0 : Int) < 256) hbw
  have nc := val_nonneg (by decide : (0 : Int) < 256) hcw
  have np : 0 ≤ val 256 a * val 256 b := Int.mul_nonneg na nb
  have bp : val 256 a * val 256 b < 256 ^ 64 := by
    have h1 : val 256 a * val 256 b ≤ 256 ^ 32 * val 256 b := Int.mul_le_mul_of_nonneg_right (Int.le_of_lt ba) nb
    have h2 : (256 : Int) ^ 32 * val 256 b < 256 ^ 32 * 256 ^ 32 := Int.mul_lt_mul_of_pos_left bb (by decide)
    exact Int.lt_of_le_of_lt h1 (by rw [← Int.pow_add] at h2; exact h2)
  have e64 : (256 : Int) ^ 64 = 65536 ^ 32 := by decide
  have vp : val 65536 (dig 65536 32 (val 256 a * val 256 b)) = val 256 a * val 256 b := val_dig (by decide) np (by rw [← e64]; exact bp)
  have vs : val 65536 (dig 65536 33 (val 256 a * val 256 b + val 256 c)) = val 256 a * val 256 b + val 256 c := val_dig (by decide) (by omega) (by
    have h1 : (65536 : Int) ^ 33 = 65536 * 256 ^ 64 := by decide
    have h2 : (256 : Int) ^ 32 ≤ 256 ^ 64 := by decide
    rw [h1]; omega)
  have hmx : max 32 16 + 1 = 33 := rfl
  simp only [ir23, rs23, gl, F23, s14, s15, s21, s20, s16, s18, F14, F15, F21, F20, F16, F18, val_Ls, val_rest, ha, hb, hc, sa, sb, sc, va, vb, vc, vp, vs, hmx, Nat.reduceDiv, sub_zero, spl_all, dig_length, List.length_cons, List.length_nil, Nat.reduceAdd, Nat.le_refl, Nat.reduceLeDiff, Nat.reduceLT, true_and, and_true, ↓h_bin, ↓h_binB, ↓h_binS, ↓h_binP, ↓h_un, ↓h_content, ↓h_bound, ↓h_part, ↓h_iadd, ↓h_isub, ↓h_imul, ↓h_iquo, ↓h_irem, ↓h_iand, ↓h_ior, ↓h_ixor, ↓h_iandNot, ↓h_ishl, ↓h_ishr, ↓h_ieql, ↓h_ineq, ↓h_ilss, ↓h_ileq, ↓h_igtr, ↓h_igeq, ↓h_call0, ↓h_callM0, ↓h_call1, ↓h_callM1, ↓h_call2, ↓h_callM2, ↓h_call3, ↓h_callM3, ↓h_call4, ↓h_callM4, ↓h_call5, ↓h_callM5, ↓h_call6, ↓h_callM6, ↓h_hit, ↓h_miss, ↓h_sData, ↓h_rds0, ↓h_rds1, ↓h_rdv, ↓h_rds, ↓h_rdr, ↓h_frzs0, ↓h_frzs1, ↓h_fzsl, ↓h_fzp, ↓h_fzi, ↓h_fznils, ↓h_fzrsl, ↓h_fzrcs, ↓h_fzrpi, ↓h_fzrpc, ↓h_fzint, ↓h_fzbool, ↓h_fzstr, ↓h_fzints, ↓h_fznilp, ↓h_fzagg, ↓h_build0, ↓h_build1, ↓h_build2, ↓h_fill0, ↓h_fill1, ↓y_skip, ↓y_seq, ↓y_ops, ↓y_opsC, ↓z_condT, ↓z_condF, ↓z_condAny, setX_t, ↓y_block, ↓y_exit, ↓y_ret, ↓r_nil, ↓r_g0, ↓r_g1, ↓z_gHit, ↓z_gMiss, ↓z_gTup, ↓z_gAny, Wi_app, ↓y_loop, ↓x_mov, ↓x_movS, ↓z_pickT, ↓z_pickF, ↓x_pick, ↓x_alloc, ↓x_box, ↓x_build, ↓x_bsl, ↓x_load, ↓x_loadN, ↓x_store, ↓x_storeN, ↓x_bin, ↓x_binB, ↓x_binS, ↓x_binP, ↓x_eqf, ↓x_un, ↓x_conv, ↓x_s2b, ↓x_b2s, ↓x_mks, ↓x_slcA, ↓x_slcS, ↓x_slcStr, ↓x_fldA, ↓x_fld, ↓x_idxA, ↓x_idxS, ↓x_idxV, ↓x_ext, ↓x_len, ↓x_lenS, ↓x_lenA, ↓x_app, ↓x_appZ, ↓x_eqnS, ↓h_appK, ↓x_copy, ↓x_mm, ↓x_nck, ↓x_mark, ↓x_idxStr, ev_t, ev_c, evs, evp, mkB, repB, fill, blen, apS_nil, apS_cons, apN_nil, apN_cons, put_some, put_none, upd_0, upd_s, updB_0, updB_s, nth_0, nth_s, nthB_0, nthB_s, ↓thenQ_n, ↓thenQ_e, ↓thenQ_r, ↓blockQ_n, ↓blockQ_e, ↓blockQ_r, ↓retQ, res, resAll, resOne, kill, apartOk, exp, injV, injB, pur, purs, purR, pursR, List.set_cons_zero, List.set_cons_succ, List.length_cons, List.length_nil, List.cons_append, List.nil_append, List.append_nil, List.append_assoc, List.length_append, List.reduceReplicate, Nat.reduceAdd, Nat.reduceMul, Nat.reduceSub, Nat.reduceEqDiff, Nat.reduceLT, Nat.zero_add, Nat.add_zero, Nat.mul_one, Int.reduceToNat, Int.toNat_natCast, Int.reduceLE, Int.reduceLT, Int.reduceEq, reduceCtorEq, ↓reduceIte, Bool.true_eq_false, Bool.false_eq_true, Bool.not_true, Bool.not_false, true_and, and_true, and_assoc, dig_length, sub_own, sub_dig, sub_rep, List.length_replicate, Nat.le_refl, forall_const, false_implies, true_implies, ne_eq, not_true_eq_false, not_false_eq_true, decide_true, decide_false, decide_eq_true_eq, decide_eq_false_iff_not, Bool.not_eq_true', Bool.not_eq_false', implies_true]
  exact ⟨⟨_, rfl, haw, by omega⟩, ⟨_, rfl, hbw, by omega⟩, ⟨_, _, rfl, dig_dig (by decide) _ _, dig_dig (by decide) _ _, by simp [dig_length], by simp [dig_length]⟩, ⟨_, rfl, hcw, by omega⟩,
    ⟨_, _, rfl, dig_dig (by decide) _ _, dig_dig (by decide) _ _, by simp [dig_length], by simp [dig_length]⟩, rfl, ⟨_, _, rfl, dig_dig (by decide) _ _, Ls_dig, by simp [dig_length], by decide, by decide⟩, ⟨_, rfl, dig_dig (by decide) _ _⟩, out_ints rfl⟩
end Am
set_option linter.unusedSimpArgs false
set_option linter.unusedVariables false
set_option maxRecDepth 20000
namespace Am
open Go.Proofs
theorem key1_key {x : Int} (h : 0 ≤ x ∧ x < 256) : Key (x :: List.replicate 31 0) := ⟨by simp, fun y hy => by
  simp only [List.mem_cons] at hy
  rcases hy with rfl | hy
  · exact h
  · rw [(List.mem_replicate.1 hy).2]; decide⟩
def preT (ds : List D) : Prop := ds = []
def s9 : Summ := sData [] preT FT
theorem awake1 : muladd [2, 0, 0, 0, 0, 0, 0, 0, 0, 0, 0, 0, 0, 0, 0, 0, 0, 0, 0, 0, 0, 0, 0, 0, 0, 0, 0, 0, 0, 0, 0, 0] [3, 0, 0, 0, 0, 0, 0, 0, 0, 0, 0, 0, 0, 0, 0, 0, 0, 0, 0, 0, 0, 0, 0, 0, 0, 0, 0, 0, 0, 0, 0, 0] [4, 0, 0, 0, 0, 0, 0, 0, 0, 0, 0, 0, 0, 0, 0, 0, 0, 0, 0, 0, 0, 0, 0, 0, 0, 0, 0, 0, 0, 0, 0, 0] = [10, 0, 0, 0, 0, 0, 0, 0, 0, 0, 0, 0, 0, 0, 0, 0, 0, 0, 0, 0, 0, 0, 0, 0, 0, 0, 0, 0, 0, 0, 0, 0] := by decide +kernel
theorem awake2 : red (dig 256 32 (val 65536 Ls)) = [0, 0, 0, 0, 0, 0, 0, 0, 0, 0, 0, 0, 0, 0, 0, 0, 0, 0, 0, 0, 0, 0, 0, 0, 0, 0, 0, 0, 0, 0, 0, 0] := by decide +kernel
theorem awake3 : ¬ red (dig 256 32 (val 65536 Ls)) = dig 256 32 (val 65536 Ls) := by decide +kernel
theorem awake3' : ([0, 0, 0, 0, 0, 0, 0, 0, 0, 0, 0, 0, 0, 0, 0, 0, 0, 0, 0, 0, 0, 0, 0, 0, 0, 0, 0, 0, 0, 0, 0, 0] = dig 256 32 (val 65536 Ls)) = False := by
  refine eq_false ?_
  decide +kernel
theorem awake4 : red [1, 0, 0, 0, 0, 0, 0, 0, 0, 0, 0, 0, 0, 0, 0, 0, 0, 0, 0, 0, 0, 0, 0, 0, 0, 0, 0, 0, 0, 0, 0, 0] = [1, 0, 0, 0, 0, 0, 0, 0, 0, 0, 0, 0, 0, 0, 0, 0, 0, 0, 0, 0, 0, 0, 0, 0, 0, 0, 0, 0, 0, 0, 0, 0] := by decide +kernel
theorem muladd_len (a b c : List Int) : (muladd a b c).length = 32 := dig_length _ _ _
theorem red_len (a : List Int) : (red a).length = 32 := dig_length _ _ _
theorem sub_Ls : sub Ls 0 Ls.length = Ls := sub_zero rfl
set_option maxHeartbeats 2000000 in
theorem ok9 : SumOK Tryd.prog gl 9 s9 ∧ SumAbs s9 := by
  refine fsum (l := [(10, s10), (12, s12), (15, s15), (20, s20), (22, s22)]) mixed gl_plain rfl Tryd.func9 comp9 compR9 nt9 (by simp only [List.mem_cons, List.not_mem_nil, or_false, forall_eq_or_imp, forall_eq]; exact ⟨ok10, ok12, ok15, ok20, ok22⟩) fun ds hd hA => ?_
  rw [hd]
  simp only [s10, s12, s15, s20, s22]
  simp (maxSteps := 2000000) only [ir9, rs9, gl, FT, s10, s12, s15, s20, s22, F10, F12, F15, F20, F22, awake1, awake2, awake3', awake4, sub_Ls, sub_zero, spl_all, dig_length, List.length_cons, List.length_nil, Nat.reduceAdd, Nat.le_refl, Nat.reduceLeDiff, Nat.reduceLT, true_and, and_true, ↓h_bin, ↓h_binB, ↓h_binS, ↓h_binP, ↓h_un, ↓h_content, ↓h_bound, ↓h_part, ↓h_iadd, ↓h_isub, ↓h_imul, ↓h_iquo, ↓h_irem, ↓h_iand, ↓h_ior, ↓h_ixor, ↓h_iandNot, ↓h_ishl, ↓h_ishr, ↓h_ieql, ↓h_ineq, ↓h_ilss, ↓h_ileq, ↓h_igtr, ↓h_igeq, ↓h_call0, ↓h_callM0, ↓h_call1, ↓h_callM1, ↓h_call2, ↓h_callM2, ↓h_call3, ↓h_callM3, ↓h_call4, ↓h_callM4, ↓h_call5, ↓h_callM5, ↓h_call6, ↓h_callM6, ↓h_hit, ↓h_miss, ↓h_sData, ↓h_rds0, ↓h_rds1, ↓h_rdv, ↓h_rds, ↓h_rdr, ↓h_frzs0, ↓h_frzs1, ↓h_fzsl, ↓h_fzp, ↓h_fzi, ↓h_fznils, ↓h_fzrsl, ↓h_fzrcs, ↓h_fzrpi, ↓h_fzrpc, ↓h_fzint, ↓h_fzbool, ↓h_fzstr, ↓h_fzints, ↓h_fznilp, ↓h_fzagg, ↓h_build0, ↓h_build1, ↓h_build2, ↓h_fill0, ↓h_fill1, ↓y_skip, ↓y_seq, ↓y_ops, ↓y_opsC, ↓z_condT, ↓z_condF, ↓z_condAny, setX_t, ↓y_block, ↓y_exit, ↓y_ret, ↓r_nil, ↓r_g0, ↓r_g1, ↓z_gHit, ↓z_gMiss, ↓z_gTup, ↓z_gAny, Wi_app, ↓y_loop, ↓x_mov, ↓x_movS, ↓z_pickT, ↓z_pickF, ↓x_pick, ↓x_alloc, ↓x_box, ↓x_build, ↓x_bsl, ↓x_load, ↓x_loadN, ↓x_store, ↓x_storeN, ↓x_bin, ↓x_binB, ↓x_binS, ↓x_binP, ↓x_eqf, ↓x_un, ↓x_conv, ↓x_s2b, ↓x_b2s, ↓x_mks, ↓x_slcA, ↓x_slcS, ↓x_slcStr, ↓x_fldA, ↓x_fld, ↓x_idxA, ↓x_idxS, ↓x_idxV, ↓x_ext, ↓x_len, ↓x_lenS, ↓x_lenA, ↓x_app, ↓x_appZ, ↓x_eqnS, ↓h_appK, ↓x_copy, ↓x_mm, ↓x_nck, ↓x_mark, ↓x_idxStr, ev_t, ev_c, evs, evp, mkB, repB, fill, blen, apS_nil, apS_cons, apN_nil, apN_cons, put_some, put_none, upd_0, upd_s, updB_0, updB_s, nth_0, nth_s, nthB_0, nthB_s, ↓thenQ_n, ↓thenQ_e, ↓thenQ_r, ↓blockQ_n, ↓blockQ_e, ↓blockQ_r, ↓retQ, res, resAll, resOne, kill, apartOk, exp, injV, injB, pur, purs, purR, pursR, List.set_cons_zero, List.set_cons_succ, List.length_cons, List.length_nil, List.cons_append, List.nil_append, List.append_nil, List.append_assoc, List.length_append, List.reduceReplicate, Nat.reduceAdd, Nat.reduceMul, Nat.reduceSub, Nat.reduceEqDiff, Nat.reduceLT, Nat.zero_add, Nat.add_zero, Nat.mul_one, Int.reduceToNat, Int.toNat_natCast, Int.reduceLE, Int.reduceLT, Int.reduceEq, reduceCtorEq, ↓reduceIte, Bool.true_eq_false, Bool.false_eq_true, Bool.not_true, Bool.not_false, true_and, and_true, and_assoc, dig_length, sub_own, sub_dig, sub_rep, List.length_replicate, Nat.le_refl, forall_const, false_implies, true_implies, ne_eq, not_true_eq_false, not_false_eq_true, decide_true, decide_false, decide_eq_true_eq, decide_eq_false_iff_not, Bool.not_eq_true', Bool.not_eq_false', implies_true]
  exact ⟨rfl, ⟨_, rfl, Ls_dig⟩, ⟨_, _, _, rfl, key1_key (by decide), key1_key (by decide), key1_key (by decide)⟩, ⟨_, rfl, dig_dig (by decide) _ _, by simp [dig_length]⟩, ⟨_, rfl, dig_length _ _ _, dig_dig (by decide) _ _⟩, ⟨_, rfl, key1_key (by decide)⟩, out_bool rfl⟩
end Am
