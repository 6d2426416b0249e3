/-
Numbers that the program and its references share.
-/
import Derived.Test.YtjikmagomahhcaaDoorIrA
import Derived.Test.YtjikmagomahhcaaDoorAmLoop
import Derived.Test.YtjikmagomahhcaaDoorAmNum
set_option linter.unusedSimpArgs false
set_option linter.unusedVariables false
set_option linter.unusedSectionVars false
set_option linter.unusedSimpArgs false
set_option linter.unusedVariables false
namespace Am
open Go.Proofs
def ord : List Int := [0x5cf5d3ed, 0x5812631a, 0xa2f79cd6, 0x14def9de, 0, 0, 0, 0x10000000]
def gl : List Blk := [.ints true .u32 ord, .dead, .dead, .dead]
theorem gl_plain : Plain gl := by
  intro B hB
  simp only [gl, List.mem_cons, List.not_mem_nil, or_false] at hB
  rcases hB with rfl | rfl | rfl | rfl
  · exact ⟨rfl, .inr ⟨_, _, _, rfl⟩⟩
  all_goals exact ⟨rfl, .inl rfl⟩
theorem mixed : Tryd.prog.follows .mixedOrders = true := by kernel_rfl
def bad : Out := .one (.v .nilp)
end Am
namespace Am
def Lo : Int := 7237005577332262213973186563042994240857116359379907606001950938285454250989
theorem Lo_lt : Lo < 4294967296 ^ 8 := by decide
theorem Lo_pos : (0 : Int) < Lo := by decide
def red (b : List Int) : List Int := dig 256 32 (val 256 b % Lo)
def muladd (a b c : List Int) : List Int := dig 256 32 ((val 256 a * val 256 b + val 256 c) % Lo)
def Key (k : List Int) : Prop := k.length = 32 ∧ Dig 256 k
end Am
set_option linter.unusedSimpArgs false
set_option linter.unusedVariables false
namespace Am
open Go.Proofs
theorem val_ord : val 4294967296 ord = Lo := by decide
theorem ord_dig : Dig 4294967296 ord := by unfold Dig ord; decide
/-- Over: nine parts against the order. -/
theorem over_awp (n : List Int) (hn : n.length = 9) (hw : Dig 4294967296 n) (S : Go.FuncId → Summ) (hA : ∀ f, SumAbs (S f)) :
    awp S 4 ir30 (retQ rs30 fun v s => out 4 (.one (.v (.bool (decide (Lo ≤ val 4294967296 n))))) v s.hp) ⟨[.ints .u32 n] ++ List.replicate 24 .undef, gl⟩ := by
  have hv := val_drop 4294967296 n 8 (by omega)
  have hd8 : n.drop 8 = [getI n 8] := by
    rw [List.drop_eq_getElem_cons (by omega), List.drop_of_length_le (by omega), getI_eq (by omega)]
  rw [hd8] at hv
  simp only [val, Int.mul_zero, Int.add_zero] at hv
  have hb := val_bound (by decide : (0 : Int) < 4294967296) (hw.take 8)
  rw [List.length_take, Nat.min_eq_left (by omega)] at hb
  have h8 := hw.get (show 8 < n.length by omega)
  have hLo := Lo_lt
  simp only [ir30, rs30, gl, ↓h_bin, ↓h_binB, ↓h_binS, ↓h_binP, ↓h_un, ↓h_content, ↓h_bound, ↓h_part, ↓h_iadd, ↓h_isub, ↓h_imul, ↓h_iquo, ↓h_irem, ↓h_iand, ↓h_ior, ↓h_ixor, ↓h_iandNot, ↓h_ishl, ↓h_ishr, ↓h_ieql, ↓h_ineq, ↓h_ilss, ↓h_ileq, ↓h_igtr, ↓h_igeq, ↓h_call0, ↓h_callM0, ↓h_call1, ↓h_callM1, ↓h_call2, ↓h_callM2, ↓h_call3, ↓h_callM3, ↓h_call4, ↓h_callM4, ↓h_call5, ↓h_callM5, ↓h_call6, ↓h_callM6, ↓h_hit, ↓h_miss, ↓h_sData, ↓h_rds0, ↓h_rds1, ↓h_rdv, ↓h_rds, ↓h_rdr, ↓h_frzs0, ↓h_frzs1, ↓h_fzsl, ↓h_fzp, ↓h_fzi, ↓h_fznils, ↓h_fzrsl, ↓h_fzrcs, ↓h_fzrpi, ↓h_fzrpc, ↓h_fzint, ↓h_fzbool, ↓h_fzstr, ↓h_fzints, ↓h_fznilp, ↓h_fzagg, ↓h_build0, ↓h_build1, ↓h_build2, ↓h_fill0, ↓h_fill1, ↓y_skip, ↓y_seq, ↓y_ops, ↓y_opsC, ↓z_condT, ↓z_condF, ↓z_condAny, setX_t, ↓y_block, ↓y_exit, ↓y_ret, ↓r_nil, ↓r_g0, ↓r_g1, ↓z_gHit, ↓z_gMiss, ↓z_gTup, ↓z_gAny, Wi_app, ↓y_loop, ↓x_mov, ↓x_movS, ↓z_pickT, ↓z_pickF, ↓x_pick, ↓x_alloc, ↓x_box, ↓x_build, ↓x_bsl, ↓x_load, ↓x_loadN, ↓x_store, ↓x_storeN, ↓x_bin, ↓x_binB, ↓x_binS, ↓x_binP, ↓x_eqf, ↓x_un, ↓x_conv, ↓x_s2b, ↓x_b2s, ↓x_mks, ↓x_slcA, ↓x_slcS, ↓x_slcStr, ↓x_fldA, ↓x_fld, ↓x_idxA, ↓x_idxS, ↓x_idxV, ↓x_ext, ↓x_len, ↓x_lenS, ↓x_lenA, ↓x_app, ↓x_appZ, ↓x_eqnS, ↓h_appK, ↓x_copy, ↓x_mm, ↓x_nck, ↓x_mark, ↓x_idxStr, ev_t, ev_c, evs, evp, mkB, repB, fill, blen, apS_nil, apS_cons, apN_nil, apN_cons, put_some, put_none, upd_0, upd_s, updB_0, updB_s, nth_0, nth_s, nthB_0, nthB_s, ↓thenQ_n, ↓thenQ_e, ↓thenQ_r, ↓blockQ_n, ↓blockQ_e, ↓blockQ_r, ↓retQ, res, resAll, resOne, kill, apartOk, exp, injV, injB, pur, purs, purR, pursR, List.set_cons_zero, List.set_cons_succ, List.length_cons, List.length_nil, List.cons_append, List.nil_append, List.append_nil, List.append_assoc, List.length_append, List.reduceReplicate, Nat.reduceAdd, Nat.reduceMul, Nat.reduceSub, Nat.reduceEqDiff, Nat.reduceLT, Nat.zero_add, Nat.add_zero, Nat.mul_one, Int.reduceToNat, Int.toNat_natCast, Int.reduceLE, Int.reduceLT, Int.reduceEq, reduceCtorEq, ↓reduceIte, Bool.true_eq_false, Bool.false_eq_true, Bool.not_true, Bool.not_false, true_and, and_true, and_assoc, dig_length, sub_own, sub_dig, sub_rep, List.length_replicate, Nat.le_refl, forall_const, false_implies, true_implies, ne_eq, not_true_eq_false, not_false_eq_true, decide_true, decide_false, decide_eq_true_eq, decide_eq_false_iff_not, Bool.not_eq_true', Bool.not_eq_false', implies_true]
  refine ⟨by omega, by omega, fun h => ?_, fun h => ?_⟩
  · try simp only [decide_eq_true_eq] at h
    have e : 4294967296 ^ 8 * 1 ≤ 4294967296 ^ 8 * getI n 8 := Int.mul_le_mul_of_nonneg_left (by omega) (by decide)
    have : Lo ≤ val 4294967296 n := by omega
    simp [out, outs, out1, this, pur]
  · try simp only [decide_eq_false_iff_not] at h
    have e0 : getI n 8 = 0 := by omega
    rw [e0, Int.mul_zero, Int.add_zero] at hv
    refine awp_loopK hA (fun i : Int => ⟨[.undef, .ptr 4 0, .undef, .int .i64 i] ++ List.replicate 21 .undef, [.ints true .u32 ord, .dead, .dead, .dead, .ints false .u32 n]⟩)
      (fun i => -1 ≤ i ∧ i ≤ 7 ∧ ∀ j : Nat, i < j → j < 8 → getI n j = getI ord j) (fun i => (i + 1).toNat) 7 (by simp only [↓h_bin, ↓h_binB, ↓h_binS, ↓h_binP, ↓h_un, ↓h_content, ↓h_bound, ↓h_part, ↓h_iadd, ↓h_isub, ↓h_imul, ↓h_iquo, ↓h_irem, ↓h_iand, ↓h_ior, ↓h_ixor, ↓h_iandNot, ↓h_ishl, ↓h_ishr, ↓h_ieql, ↓h_ineq, ↓h_ilss, ↓h_ileq, ↓h_igtr, ↓h_igeq, ↓h_call0, ↓h_callM0, ↓h_call1, ↓h_callM1, ↓h_call2, ↓h_callM2, ↓h_call3, ↓h_callM3, ↓h_call4, ↓h_callM4, ↓h_call5, ↓h_callM5, ↓h_call6, ↓h_callM6, ↓h_hit, ↓h_miss, ↓h_sData, ↓h_rds0, ↓h_rds1, ↓h_rdv, ↓h_rds, ↓h_rdr, ↓h_frzs0, ↓h_frzs1, ↓h_fzsl, ↓h_fzp, ↓h_fzi, ↓h_fznils, ↓h_fzrsl, ↓h_fzrcs, ↓h_fzrpi, ↓h_fzrpc, ↓h_fzint, ↓h_fzbool, ↓h_fzstr, ↓h_fzints, ↓h_fznilp, ↓h_fzagg, ↓h_build0, ↓h_build1, ↓h_build2, ↓h_fill0, ↓h_fill1, ↓y_skip, ↓y_seq, ↓y_ops, ↓y_opsC, ↓z_condT, ↓z_condF, ↓z_condAny, setX_t, ↓y_block, ↓y_exit, ↓y_ret, ↓r_nil, ↓r_g0, ↓r_g1, ↓z_gHit, ↓z_gMiss, ↓z_gTup, ↓z_gAny, Wi_app, ↓y_loop, ↓x_mov, ↓x_movS, ↓z_pickT, ↓z_pickF, ↓x_pick, ↓x_alloc, ↓x_box, ↓x_build, ↓x_bsl, ↓x_load, ↓x_loadN, ↓x_store, ↓x_storeN, ↓x_bin, ↓x_binB, ↓x_binS, ↓x_binP, ↓x_eqf, ↓x_un, ↓x_conv, ↓x_s2b, ↓x_b2s, ↓x_mks, ↓x_slcA, ↓x_slcS, ↓x_slcStr, ↓x_fldA, ↓x_fld, ↓x_idxA, ↓x_idxS, ↓x_idxV, ↓x_ext, ↓x_len, ↓x_lenS, ↓x_lenA, ↓x_app, ↓x_appZ, ↓x_eqnS, ↓h_appK, ↓x_copy, ↓x_mm, ↓x_nck, ↓x_mark, ↓x_idxStr, ev_t, ev_c, evs, evp, mkB, repB, fill, blen, apS_nil, apS_cons, apN_nil, apN_cons, put_some, put_none, upd_0, upd_s, updB_0, updB_s, nth_0, nth_s, nthB_0, nthB_s, ↓thenQ_n, ↓thenQ_e, ↓thenQ_r, ↓blockQ_n, ↓blockQ_e, ↓blockQ_r, ↓retQ, res, resAll, resOne, kill, apartOk, exp, injV, injB, pur, purs, purR, pursR, List.set_cons_zero, List.set_cons_succ, List.length_cons, List.length_nil, List.cons_append, List.nil_append, List.append_nil, List.append_assoc, List.length_append, List.reduceReplicate, Nat.reduceAdd, Nat.reduceMul, Nat.reduceSub, Nat.reduceEqDiff, Nat.reduceLT, Nat.zero_add, Nat.add_zero, Nat.mul_one, Int.reduceToNat, Int.toNat_natCast, Int.reduceLE, Int.reduceLT, Int.reduceEq, reduceCtorEq, ↓reduceIte, Bool.true_eq_false, Bool.false_eq_true, Bool.not_true, Bool.not_false, true_and, and_true, and_assoc, dig_length, sub_own, sub_dig, sub_rep, List.length_replicate, Nat.le_refl, forall_const, false_implies, true_implies, ne_eq, not_true_eq_false, not_false_eq_true, decide_true, decide_false, decide_eq_true_eq, decide_eq_false_iff_not, Bool.not_eq_true', Bool.not_eq_false', implies_true]) ⟨by omega, by omega, fun j h1 h2 => by omega⟩ fun i ⟨h1, h2, h3⟩ K hK => ?_
    simp only [↓h_bin, ↓h_binB, ↓h_binS, ↓h_binP, ↓h_un, ↓h_content, ↓h_bound, ↓h_part, ↓h_iadd, ↓h_isub, ↓h_imul, ↓h_iquo, ↓h_irem, ↓h_iand, ↓h_ior, ↓h_ixor, ↓h_iandNot, ↓h_ishl, ↓h_ishr, ↓h_ieql, ↓h_ineq, ↓h_ilss, ↓h_ileq, ↓h_igtr, ↓h_igeq, ↓h_call0, ↓h_callM0, ↓h_call1, ↓h_callM1, ↓h_call2, ↓h_callM2, ↓h_call3, ↓h_callM3, ↓h_call4, ↓h_callM4, ↓h_call5, ↓h_callM5, ↓h_call6, ↓h_callM6, ↓h_hit, ↓h_miss, ↓h_sData, ↓h_rds0, ↓h_rds1, ↓h_rdv, ↓h_rds, ↓h_rdr, ↓h_frzs0, ↓h_frzs1, ↓h_fzsl, ↓h_fzp, ↓h_fzi, ↓h_fznils, ↓h_fzrsl, ↓h_fzrcs, ↓h_fzrpi, ↓h_fzrpc, ↓h_fzint, ↓h_fzbool, ↓h_fzstr, ↓h_fzints, ↓h_fznilp, ↓h_fzagg, ↓h_build0, ↓h_build1, ↓h_build2, ↓h_fill0, ↓h_fill1, ↓y_skip, ↓y_seq, ↓y_ops, ↓y_opsC, ↓z_condT, ↓z_condF, ↓z_condAny, setX_t, ↓y_block, ↓y_exit, ↓y_ret, ↓r_nil, ↓r_g0, ↓r_g1, ↓z_gHit, ↓z_gMiss, ↓z_gTup, ↓z_gAny, Wi_app, ↓y_loop, ↓x_mov, ↓x_movS, ↓z_pickT, ↓z_pickF, ↓x_pick, ↓x_alloc, ↓x_box, ↓x_build, ↓x_bsl, ↓x_load, ↓x_loadN, ↓x_store, ↓x_storeN, ↓x_bin, ↓x_binB, ↓x_binS, ↓x_binP, ↓x_eqf, ↓x_un, ↓x_conv, ↓x_s2b, ↓x_b2s, ↓x_mks, ↓x_slcA, ↓x_slcS, ↓x_slcStr, ↓x_fldA, ↓x_fld, ↓x_idxA, ↓x_idxS, ↓x_idxV, ↓x_ext, ↓x_len, ↓x_lenS, ↓x_lenA, ↓x_app, ↓x_appZ, ↓x_eqnS, ↓h_appK, ↓x_copy, ↓x_mm, ↓x_nck, ↓x_mark, ↓x_idxStr, ev_t, ev_c, evs, evp, mkB, repB, fill, blen, apS_nil, apS_cons, apN_nil, apN_cons, put_some, put_none, upd_0, upd_s, updB_0, updB_s, nth_0, nth_s, nthB_0, nthB_s, ↓thenQ_n, ↓thenQ_e, ↓thenQ_r, ↓blockQ_n, ↓blockQ_e, ↓blockQ_r, ↓retQ, res, resAll, resOne, kill, apartOk, exp, injV, injB, pur, purs, purR, pursR, List.set_cons_zero, List.set_cons_succ, List.length_cons, List.length_nil, List.cons_append, List.nil_append, List.append_nil, List.append_assoc, List.length_append, List.reduceReplicate, Nat.reduceAdd, Nat.reduceMul, Nat.reduceSub, Nat.reduceEqDiff, Nat.reduceLT, Nat.zero_add, Nat.add_zero, Nat.mul_one, Int.reduceToNat, Int.toNat_natCast, Int.reduceLE, Int.reduceLT, Int.reduceEq, reduceCtorEq, ↓reduceIte, Bool.true_eq_false, Bool.false_eq_true, Bool.not_true, Bool.not_false, true_and, and_true, and_assoc, dig_length, sub_own, sub_dig, sub_rep, List.length_replicate, Nat.le_refl, forall_const, false_implies, true_implies, ne_eq, not_true_eq_false, not_false_eq_true, decide_true, decide_false, decide_eq_true_eq, decide_eq_false_iff_not, Bool.not_eq_true', Bool.not_eq_false', implies_true]
    refine ⟨fun hi => ?_, fun hi => ?_⟩
    · try simp only [decide_eq_true_eq] at hi
      obtain ⟨k, rfl⟩ := Int.eq_ofNat_of_zero_le hi
      simp only [↓h_bin, ↓h_binB, ↓h_binS, ↓h_binP, ↓h_un, ↓h_content, ↓h_bound, ↓h_part, ↓h_iadd, ↓h_isub, ↓h_imul, ↓h_iquo, ↓h_irem, ↓h_iand, ↓h_ior, ↓h_ixor, ↓h_iandNot, ↓h_ishl, ↓h_ishr, ↓h_ieql, ↓h_ineq, ↓h_ilss, ↓h_ileq, ↓h_igtr, ↓h_igeq, ↓h_call0, ↓h_callM0, ↓h_call1, ↓h_callM1, ↓h_call2, ↓h_callM2, ↓h_call3, ↓h_callM3, ↓h_call4, ↓h_callM4, ↓h_call5, ↓h_callM5, ↓h_call6, ↓h_callM6, ↓h_hit, ↓h_miss, ↓h_sData, ↓h_rds0, ↓h_rds1, ↓h_rdv, ↓h_rds, ↓h_rdr, ↓h_frzs0, ↓h_frzs1, ↓h_fzsl, ↓h_fzp, ↓h_fzi, ↓h_fznils, ↓h_fzrsl, ↓h_fzrcs, ↓h_fzrpi, ↓h_fzrpc, ↓h_fzint, ↓h_fzbool, ↓h_fzstr, ↓h_fzints, ↓h_fznilp, ↓h_fzagg, ↓h_build0, ↓h_build1, ↓h_build2, ↓h_fill0, ↓h_fill1, ↓y_skip, ↓y_seq, ↓y_ops, ↓y_opsC, ↓z_condT, ↓z_condF, ↓z_condAny, setX_t, ↓y_block, ↓y_exit, ↓y_ret, ↓r_nil, ↓r_g0, ↓r_g1, ↓z_gHit, ↓z_gMiss, ↓z_gTup, ↓z_gAny, Wi_app, ↓y_loop, ↓x_mov, ↓x_movS, ↓z_pickT, ↓z_pickF, ↓x_pick, ↓x_alloc, ↓x_box, ↓x_build, ↓x_bsl, ↓x_load, ↓x_loadN, ↓x_store, ↓x_storeN, ↓x_bin, ↓x_binB, ↓x_binS, ↓x_binP, ↓x_eqf, ↓x_un, ↓x_conv, ↓x_s2b, ↓x_b2s, ↓x_mks, ↓x_slcA, ↓x_slcS, ↓x_slcStr, ↓x_fldA, ↓x_fld, ↓x_idxA, ↓x_idxS, ↓x_idxV, ↓x_ext, ↓x_len, ↓x_lenS, ↓x_lenA, ↓x_app, ↓x_appZ, ↓x_eqnS, ↓h_appK, ↓x_copy, ↓x_mm, ↓x_nck, ↓x_mark, ↓x_idxStr, ev_t, ev_c, evs, evp, mkB, repB, fill, blen, apS_nil, apS_cons, apN_nil, apN_cons, put_some, put_none, upd_0, upd_s, updB_0, updB_s, nth_0, nth_s, nthB_0, nthB_s, ↓thenQ_n, ↓thenQ_e, ↓thenQ_r, ↓blockQ_n, ↓blockQ_e, ↓blockQ_r, ↓retQ, res, resAll, resOne, kill, apartOk, exp, injV, injB, pur, purs, purR, pursR, List.set_cons_zero, List.set_cons_succ, List.length_cons, List.length_nil, List.cons_append, List.nil_append, List.append_nil, List.append_assoc, List.length_append, List.reduceReplicate, Nat.reduceAdd, Nat.reduceMul, Nat.reduceSub, Nat.reduceEqDiff, Nat.reduceLT, Nat.zero_add, Nat.add_zero, Nat.mul_one, Int.reduceToNat, Int.toNat_natCast, Int.reduceLE, Int.reduceLT, Int.reduceEq, reduceCtorEq, ↓reduceIte, Bool.true_eq_false, Bool.false_eq_true, Bool.not_true, Bool.not_false, true_and, and_true, and_assoc, dig_length, sub_own, sub_dig, sub_rep, List.length_replicate, Nat.le_refl, forall_const, false_implies, true_implies, ne_eq, not_true_eq_false, not_false_eq_true, decide_true, decide_false, decide_eq_true_eq, decide_eq_false_iff_not, Bool.not_eq_true', Bool.not_eq_false', implies_true]
      have hlt : k < 8 := by omega
      have cmp : ∀ xs ys : List Int, xs.length = 8 → ys.length = 8 → Dig 4294967296 xs → Dig 4294967296 ys → (∀ j : Nat, k < j → j < 8 → getI xs j = getI ys j) → getI xs k < getI ys k → val 4294967296 xs < val 4294967296 ys :=
        fun xs ys l1 l2 d1 d2 hj hlt' => val_lt (by decide) d1 d2 (by omega) (i := k) (by omega) (fun j h1 h2 => hj j h1 (by omega)) hlt'
      have tk : ∀ j : Nat, j < 8 → getI (n.take 8) j = getI n j := fun j hj => by simp [getI, List.getElem?_take, hj]
      have hl8 : (n.take 8).length = 8 := by simp; omega
      have hol : ord.length = 8 := rfl
      repeat (refine And.intro (by first | omega | rfl) ?_)
      refine ⟨fun hne => ?_, fun heq => ?_⟩
      · repeat (refine And.intro (by first | omega | rfl) ?_)
        try simp only [decide_eq_false_iff_not] at hne
        have : decide (Lo ≤ val 4294967296 n) = decide (getI ord k < getI n k) := by
          rw [decide_eq_decide, hv, ← val_ord]
          constructor
          · intro hle
            rcases Int.lt_or_le (getI ord k) (getI n k) with h | h
            · exact h
            · have := cmp (n.take 8) ord hl8 rfl (hw.take 8) ord_dig (fun j a b => by rw [tk j b]; exact h3 j (by omega) b) (by rw [tk k hlt]; omega)
              omega
          · intro hlt'
            have := cmp ord (n.take 8) rfl hl8 ord_dig (hw.take 8) (fun j a b => by rw [tk j b]; exact (h3 j (by omega) b).symm) (by rw [tk k hlt]; omega)
            omega
        simp [out, outs, out1, this, pur]
      · try simp only [decide_eq_true_eq] at heq
        refine ⟨(k : Int) - 1, hK _ ⟨by omega, by omega, fun j a b => ?_⟩ (by omega), ?_⟩
        · by_cases hjk : j = k
          · subst hjk; exact heq
          · exact h3 j (by omega) b
        · rw [wrap_i64]
          have : (((k : Int) - 1 + 9223372036854775808) % 18446744073709551616 - 9223372036854775808) = (k : Int) - 1 := by omega
          rw [this]
    · try simp only [decide_eq_false_iff_not] at hi
      have : Lo ≤ val 4294967296 n := by
        have : n.take 8 = ord := getI_ext (by simp [ord]; omega) fun j hj => by
          have hj8 : j < 8 := by simp at hj; omega
          rw [← h3 j (by omega) hj8]
          simp [getI, List.getElem?_take, hj8]
        rw [hv, this, val_ord]; exact Int.le_refl _
      simp [out, outs, out1, this, pur]
def pre30 (ds : List D) : Prop := ∃ n, ds = [.v (.ints .u32 n)] ∧ n.length = 9 ∧ Dig 4294967296 n
def F30 : List D → Out
  | [.v (.ints _ n)] => .one (.v (.bool (decide (Lo ≤ val 4294967296 n))))
  | _ => bad
def s30 : Summ := sData [.v] pre30 F30
theorem ok30 : SumOK Tryd.prog gl 30 s30 ∧ SumAbs s30 :=
  fsum (l := []) mixed gl_plain rfl Tryd.func30 comp30 compR30 nt30 (by simp) fun ds ⟨n, hd, hn, hw⟩ hA => by
    subst hd
    exact over_awp n hn hw _ hA
end Am
set_option linter.unusedSimpArgs false
set_option linter.unusedVariables false
set_option maxRecDepth 20000
namespace Am
open Go.Proofs
def pre31 (ds : List D) : Prop := ∃ n, ds = [.v (.ints .u32 n)] ∧ n.length = 9 ∧ Dig 4294967296 n ∧ Lo ≤ val 4294967296 n
def F31 : List D → Out
  | [.v (.ints _ n)] => .one (.v (.ints .u32 (dig 4294967296 9 (val 4294967296 n - Lo))))
  | _ => bad
def s31 : Summ := sData [.v] pre31 F31
theorem ok31 : SumOK Tryd.prog gl 31 s31 ∧ SumAbs s31 := by
  refine fsum (l := []) mixed gl_plain rfl Tryd.func31 comp31 compR31 nt31 (by simp) fun ds ⟨n, hd, hn, hw, hle⟩ hA => ?_
  subst hd
  simp only [ir31, rs31, gl, F31, ↓h_bin, ↓h_binB, ↓h_binS, ↓h_binP, ↓h_un, ↓h_content, ↓h_bound, ↓h_part, ↓h_iadd, ↓h_isub, ↓h_imul, ↓h_iquo, ↓h_irem, ↓h_iand, ↓h_ior, ↓h_ixor, ↓h_iandNot, ↓h_ishl, ↓h_ishr, ↓h_ieql, ↓h_ineq, ↓h_ilss, ↓h_ileq, ↓h_igtr, ↓h_igeq, ↓h_call0, ↓h_callM0, ↓h_call1, ↓h_callM1, ↓h_call2, ↓h_callM2, ↓h_call3, ↓h_callM3, ↓h_call4, ↓h_callM4, ↓h_call5, ↓h_callM5, ↓h_call6, ↓h_callM6, ↓h_hit, ↓h_miss, ↓h_sData, ↓h_rds0, ↓h_rds1, ↓h_rdv, ↓h_rds, ↓h_rdr, ↓h_frzs0, ↓h_frzs1, ↓h_fzsl, ↓h_fzp, ↓h_fzi, ↓h_fznils, ↓h_fzrsl, ↓h_fzrcs, ↓h_fzrpi, ↓h_fzrpc, ↓h_fzint, ↓h_fzbool, ↓h_fzstr, ↓h_fzints, ↓h_fznilp, ↓h_fzagg, ↓h_build0, ↓h_build1, ↓h_build2, ↓h_fill0, ↓h_fill1, ↓y_skip, ↓y_seq, ↓y_ops, ↓y_opsC, ↓z_condT, ↓z_condF, ↓z_condAny, setX_t, ↓y_block, ↓y_exit, ↓y_ret, ↓r_nil, ↓r_g0, ↓r_g1, ↓z_gHit, ↓z_gMiss, ↓z_gTup, ↓z_gAny, Wi_app, ↓y_loop, ↓x_mov, ↓x_movS, ↓z_pickT, ↓z_pickF, ↓x_pick, ↓x_alloc, ↓x_box, ↓x_build, ↓x_bsl, ↓x_load, ↓x_loadN, ↓x_store, ↓x_storeN, ↓x_bin, ↓x_binB, ↓x_binS, ↓x_binP, ↓x_eqf, ↓x_un, ↓x_conv, ↓x_s2b, ↓x_b2s, ↓x_mks, ↓x_slcA, ↓x_slcS, ↓x_slcStr, ↓x_fldA, ↓x_fld, ↓x_idxA, ↓x_idxS, ↓x_idxV, ↓x_ext, ↓x_len, ↓x_lenS, ↓x_lenA, ↓x_app, ↓x_appZ, ↓x_eqnS, ↓h_appK, ↓x_copy, ↓x_mm, ↓x_nck, ↓x_mark, ↓x_idxStr, ev_t, ev_c, evs, evp, mkB, repB, fill, blen, apS_nil, apS_cons, apN_nil, apN_cons, put_some, put_none, upd_0, upd_s, updB_0, updB_s, nth_0, nth_s, nthB_0, nthB_s, ↓thenQ_n, ↓thenQ_e, ↓thenQ_r, ↓blockQ_n, ↓blockQ_e, ↓blockQ_r, ↓retQ, res, resAll, resOne, kill, apartOk, exp, injV, injB, pur, purs, purR, pursR, List.set_cons_zero, List.set_cons_succ, List.length_cons, List.length_nil, List.cons_append, List.nil_append, List.append_nil, List.append_assoc, List.length_append, List.reduceReplicate, Nat.reduceAdd, Nat.reduceMul, Nat.reduceSub, Nat.reduceEqDiff, Nat.reduceLT, Nat.zero_add, Nat.add_zero, Nat.mul_one, Int.reduceToNat, Int.toNat_natCast, Int.reduceLE, Int.reduceLT, Int.reduceEq, reduceCtorEq, ↓reduceIte, Bool.true_eq_false, Bool.false_eq_true, Bool.not_true, Bool.not_false, true_and, and_true, and_assoc, dig_length, sub_own, sub_dig, sub_rep, List.length_replicate, Nat.le_refl, forall_const, false_implies, true_implies, ne_eq, not_true_eq_false, not_false_eq_true, decide_true, decide_false, decide_eq_true_eq, decide_eq_false_iff_not, Bool.not_eq_true', Bool.not_eq_false', implies_true]
  refine awp_loopK hA (fun x : Nat × Int × List Int => ⟨[.undef, .ptr 4 0, .ptr 5 0, .int .u64 x.2.1, .undef, .undef, .undef, .int .i64 x.1] ++ List.replicate 25 .undef, [.ints true .u32 ord, .dead, .dead, .dead, .ints false .u32 x.2.2, .ints false .u32 [0, 0, 0, 0, 0, 0, 0, 0, 0]]⟩)
    (fun x => x.1 ≤ 9 ∧ 0 ≤ x.2.1 ∧ x.2.1 ≤ 1 ∧ x.2.2.length = 9 ∧ Dig 4294967296 x.2.2 ∧ (∀ j, x.1 ≤ j → getI x.2.2 j = getI n j) ∧
      val 4294967296 (x.2.2.take x.1) = val 4294967296 (n.take x.1) - val 4294967296 (ord.take x.1) + x.2.1 * 4294967296 ^ x.1) (fun x => 9 - x.1) (0, 0, n) (by simp only [↓h_bin, ↓h_binB, ↓h_binS, ↓h_binP, ↓h_un, ↓h_content, ↓h_bound, ↓h_part, ↓h_iadd, ↓h_isub, ↓h_imul, ↓h_iquo, ↓h_irem, ↓h_iand, ↓h_ior, ↓h_ixor, ↓h_iandNot, ↓h_ishl, ↓h_ishr, ↓h_ieql, ↓h_ineq, ↓h_ilss, ↓h_ileq, ↓h_igtr, ↓h_igeq, ↓h_call0, ↓h_callM0, ↓h_call1, ↓h_callM1, ↓h_call2, ↓h_callM2, ↓h_call3, ↓h_callM3, ↓h_call4, ↓h_callM4, ↓h_call5, ↓h_callM5, ↓h_call6, ↓h_callM6, ↓h_hit, ↓h_miss, ↓h_sData, ↓h_rds0, ↓h_rds1, ↓h_rdv, ↓h_rds, ↓h_rdr, ↓h_frzs0, ↓h_frzs1, ↓h_fzsl, ↓h_fzp, ↓h_fzi, ↓h_fznils, ↓h_fzrsl, ↓h_fzrcs, ↓h_fzrpi, ↓h_fzrpc, ↓h_fzint, ↓h_fzbool, ↓h_fzstr, ↓h_fzints, ↓h_fznilp, ↓h_fzagg, ↓h_build0, ↓h_build1, ↓h_build2, ↓h_fill0, ↓h_fill1, ↓y_skip, ↓y_seq, ↓y_ops, ↓y_opsC, ↓z_condT, ↓z_condF, ↓z_condAny, setX_t, ↓y_block, ↓y_exit, ↓y_ret, ↓r_nil, ↓r_g0, ↓r_g1, ↓z_gHit, ↓z_gMiss, ↓z_gTup, ↓z_gAny, Wi_app, ↓y_loop, ↓x_mov, ↓x_movS, ↓z_pickT, ↓z_pickF, ↓x_pick, ↓x_alloc, ↓x_box, ↓x_build, ↓x_bsl, ↓x_load, ↓x_loadN, ↓x_store, ↓x_storeN, ↓x_bin, ↓x_binB, ↓x_binS, ↓x_binP, ↓x_eqf, ↓x_un, ↓x_conv, ↓x_s2b, ↓x_b2s, ↓x_mks, ↓x_slcA, ↓x_slcS, ↓x_slcStr, ↓x_fldA, ↓x_fld, ↓x_idxA, ↓x_idxS, ↓x_idxV, ↓x_ext, ↓x_len, ↓x_lenS, ↓x_lenA, ↓x_app, ↓x_appZ, ↓x_eqnS, ↓h_appK, ↓x_copy, ↓x_mm, ↓x_nck, ↓x_mark, ↓x_idxStr, ev_t, ev_c, evs, evp, mkB, repB, fill, blen, apS_nil, apS_cons, apN_nil, apN_cons, put_some, put_none, upd_0, upd_s, updB_0, updB_s, nth_0, nth_s, nthB_0, nthB_s, ↓thenQ_n, ↓thenQ_e, ↓thenQ_r, ↓blockQ_n, ↓blockQ_e, ↓blockQ_r, ↓retQ, res, resAll, resOne, kill, apartOk, exp, injV, injB, pur, purs, purR, pursR, List.set_cons_zero, List.set_cons_succ, List.length_cons, List.length_nil, List.cons_append, List.nil_append, List.append_nil, List.append_assoc, List.length_append, List.reduceReplicate, Nat.reduceAdd, Nat.reduceMul, Nat.reduceSub, Nat.reduceEqDiff, Nat.reduceLT, Nat.zero_add, Nat.add_zero, Nat.mul_one, Int.reduceToNat, Int.toNat_natCast, Int.reduceLE, Int.reduceLT, Int.reduceEq, reduceCtorEq, ↓reduceIte, Bool.true_eq_false, Bool.false_eq_true, Bool.not_true, Bool.not_false, true_and, and_true, and_assoc, dig_length, sub_own, sub_dig, sub_rep, List.length_replicate, Nat.le_refl, forall_const, false_implies, true_implies, ne_eq, not_true_eq_false, not_false_eq_true, decide_true, decide_false, decide_eq_true_eq, decide_eq_false_iff_not, Bool.not_eq_true', Bool.not_eq_false', implies_true]; rfl) ⟨by simp, by simp, by simp, hn, hw, by simp, by simp [val]⟩ ?_
  rintro ⟨i, c, m⟩ ⟨h1, h2, h3, h4, h5, h6, h7⟩ K hK
  simp only [] at h1 h2 h3 h4 h5 h6 h7
  simp only [↓h_bin, ↓h_binB, ↓h_binS, ↓h_binP, ↓h_un, ↓h_content, ↓h_bound, ↓h_part, ↓h_iadd, ↓h_isub, ↓h_imul, ↓h_iquo, ↓h_irem, ↓h_iand, ↓h_ior, ↓h_ixor, ↓h_iandNot, ↓h_ishl, ↓h_ishr, ↓h_ieql, ↓h_ineq, ↓h_ilss, ↓h_ileq, ↓h_igtr, ↓h_igeq, ↓h_call0, ↓h_callM0, ↓h_call1, ↓h_callM1, ↓h_call2, ↓h_callM2, ↓h_call3, ↓h_callM3, ↓h_call4, ↓h_callM4, ↓h_call5, ↓h_callM5, ↓h_call6, ↓h_callM6, ↓h_hit, ↓h_miss, ↓h_sData, ↓h_rds0, ↓h_rds1, ↓h_rdv, ↓h_rds, ↓h_rdr, ↓h_frzs0, ↓h_frzs1, ↓h_fzsl, ↓h_fzp, ↓h_fzi, ↓h_fznils, ↓h_fzrsl, ↓h_fzrcs, ↓h_fzrpi, ↓h_fzrpc, ↓h_fzint, ↓h_fzbool, ↓h_fzstr, ↓h_fzints, ↓h_fznilp, ↓h_fzagg, ↓h_build0, ↓h_build1, ↓h_build2, ↓h_fill0, ↓h_fill1, ↓y_skip, ↓y_seq, ↓y_ops, ↓y_opsC, ↓z_condT, ↓z_condF, ↓z_condAny, setX_t, ↓y_block, ↓y_exit, ↓y_ret, ↓r_nil, ↓r_g0, ↓r_g1, ↓z_gHit, ↓z_gMiss, ↓z_gTup, ↓z_gAny, Wi_app, ↓y_loop, ↓x_mov, ↓x_movS, ↓z_pickT, ↓z_pickF, ↓x_pick, ↓x_alloc, ↓x_box, ↓x_build, ↓x_bsl, ↓x_load, ↓x_loadN, ↓x_store, ↓x_storeN, ↓x_bin, ↓x_binB, ↓x_binS, ↓x_binP, ↓x_eqf, ↓x_un, ↓x_conv, ↓x_s2b, ↓x_b2s, ↓x_mks, ↓x_slcA, ↓x_slcS, ↓x_slcStr, ↓x_fldA, ↓x_fld, ↓x_idxA, ↓x_idxS, ↓x_idxV, ↓x_ext, ↓x_len, ↓x_lenS, ↓x_lenA, ↓x_app, ↓x_appZ, ↓x_eqnS, ↓h_appK, ↓x_copy, ↓x_mm, ↓x_nck, ↓x_mark, ↓x_idxStr, ev_t, ev_c, evs, evp, mkB, repB, fill, blen, apS_nil, apS_cons, apN_nil, apN_cons, put_some, put_none, upd_0, upd_s, updB_0, updB_s, nth_0, nth_s, nthB_0, nthB_s, ↓thenQ_n, ↓thenQ_e, ↓thenQ_r, ↓blockQ_n, ↓blockQ_e, ↓blockQ_r, ↓retQ, res, resAll, resOne, kill, apartOk, exp, injV, injB, pur, purs, purR, pursR, List.set_cons_zero, List.set_cons_succ, List.length_cons, List.length_nil, List.cons_append, List.nil_append, List.append_nil, List.append_assoc, List.length_append, List.reduceReplicate, Nat.reduceAdd, Nat.reduceMul, Nat.reduceSub, Nat.reduceEqDiff, Nat.reduceLT, Nat.zero_add, Nat.add_zero, Nat.mul_one, Int.reduceToNat, Int.toNat_natCast, Int.reduceLE, Int.reduceLT, Int.reduceEq, reduceCtorEq, ↓reduceIte, Bool.true_eq_false, Bool.false_eq_true, Bool.not_true, Bool.not_false, true_and, and_true, and_assoc, dig_length, sub_own, sub_dig, sub_rep, List.length_replicate, Nat.le_refl, forall_const, false_implies, true_implies, ne_eq, not_true_eq_false, not_false_eq_true, decide_true, decide_false, decide_eq_true_eq, decide_eq_false_iff_not, Bool.not_eq_true', Bool.not_eq_false', implies_true]
  refine ⟨fun hi => ?_, fun hi => ?_⟩
  · try simp only [decide_eq_true_eq] at hi
    have hi : i < 9 := by omega
    have hd := h5.get (show i < m.length by omega)
    have hmi := h6 i (Nat.le_refl i)
    -- the digit and the borrow, whatever is taken away
    have fin : ∀ y v c' : Int, 0 ≤ y → v = getI m i - y + c' * 4294967296 → 0 ≤ v → v < 4294967296 → 0 ≤ c' → c' ≤ 1 → y = c + getI ord i →
        (fun x : Nat × Int × List Int => x.1 ≤ 9 ∧ 0 ≤ x.2.1 ∧ x.2.1 ≤ 1 ∧ x.2.2.length = 9 ∧ Dig 4294967296 x.2.2 ∧ (∀ j, x.1 ≤ j → getI x.2.2 j = getI n j) ∧
      val 4294967296 (x.2.2.take x.1) = val 4294967296 (n.take x.1) - val 4294967296 (ord.take x.1) + x.2.1 * 4294967296 ^ x.1) (i + 1, c', m.set i v) := by
      intro y v c' hy hv hv0 hv1 hc0 hc1 hyc
      refine ⟨by omega, hc0, hc1, by simpa using h4, h5.set i hv0 hv1, fun j hj => ?_, ?_⟩
      · rw [getI_set _ _ _ _ (by omega), if_neg (by simp only [] at hj; omega)]
        exact h6 j (by simp only [] at hj; omega)
      · simp only []
        rw [val_take_set 4294967296 v (by omega), val_take_succ 4294967296 (xs := n) (by omega), h7]
        have ho : val 4294967296 (ord.take (i + 1)) = val 4294967296 (ord.take i) + 4294967296 ^ i * getI ord i := by
          rcases Nat.lt_or_ge i 8 with h | h
          · exact val_take_succ 4294967296 (by simpa [ord] using h)
          · have : i = 8 := by omega
            subst this
            simp [ord, getI, val]
        rw [ho, hv, hmi, hyc, Int.pow_succ]
        generalize (4294967296 : Int) ^ i = p
        have e : p * (getI n i - (c + getI ord i) + c' * 4294967296) = p * getI n i - (c * p + p * getI ord i) + c' * (p * 4294967296) := by
          rw [Int.mul_add, Int.mul_sub, Int.mul_add, Int.mul_comm p c, Int.mul_left_comm]
        omega
    have hto : (Int.toNat (i : Int)) = i := by omega
    refine ⟨fun h8 => ?_, fun h8 => ?_⟩
    · try simp only [decide_eq_true_eq] at h8
      have ho := ord_dig.get (show i < ord.length by simp [ord]; omega)
      have hol : ord.length = 8 := rfl
      repeat (refine And.intro (by first | omega | rfl) ?_)
      simp only [wrap_u8, wrap_u16, wrap_u32, wrap_u64, iShr_eq, Go.IntKind.bits, Int.reduceToNat, Int.toNat_natCast, Nat.min_def, Nat.reduceLeDiff, reduceIte, Int.reducePow]
      repeat (refine And.intro (by first | omega | rfl) ?_)
      refine ⟨(i + 1, _, m.set i _), hK _ (fin (c + getI ord i) (((getI m i % 18446744073709551616 - (c + getI ord i % 18446744073709551616) % 18446744073709551616) % 18446744073709551616) % 4294967296) (((getI m i % 18446744073709551616 - (c + getI ord i % 18446744073709551616) % 18446744073709551616) % 18446744073709551616) / 9223372036854775808) (by omega) (by omega) (by omega) (by omega) (by omega) (by omega) rfl) (by simp only []; omega), ?_⟩
      have hw' : Go.IntKind.i64.wrap ((i : Int) + 1) = ((i + 1 : Nat) : Int) := by rw [wrap_i64]; omega
      rw [hw']
    · try simp only [decide_eq_false_iff_not] at h8
      have h8 : i = 8 := by omega
      subst h8
      have ho : getI ord 8 = 0 := by simp [ord, getI]
      simp only [wrap_u8, wrap_u16, wrap_u32, wrap_u64, iShr_eq, Go.IntKind.bits, Int.reduceToNat, Int.toNat_natCast, Nat.min_def, Nat.reduceLeDiff, reduceIte, Int.reducePow]
      repeat (refine And.intro (by first | omega | rfl) ?_)
      refine ⟨(9, _, m.set 8 _), hK _ (fin c ((getI m 8 % 18446744073709551616 - c) % 18446744073709551616 % 4294967296) ((getI m 8 % 18446744073709551616 - c) % 18446744073709551616 / 9223372036854775808) (by omega) (by omega) (by omega) (by omega) (by omega) (by omega) (by omega)) (by simp only []; omega), ?_⟩
      have hw' : Go.IntKind.i64.wrap (((8 : Nat) : Int) + 1) = ((9 : Nat) : Int) := by rw [wrap_i64]; omega
      rw [hw']
  · try simp only [decide_eq_false_iff_not] at hi
    have hi : i = 9 := by omega
    subst hi
    have hb := val_bound (by decide : (0 : Int) < 4294967296) h5
    rw [List.take_of_length_le (by omega), List.take_of_length_le (by omega), List.take_of_length_le (by simp [ord]), val_ord] at h7
    rw [h4] at hb
    have hb2 := val_bound (by decide : (0 : Int) < 4294967296) hw
    rw [hn] at hb2
    have hc : c = 0 := by
      rcases (by omega : c = 0 ∨ c = 1) with h | h
      · exact h
      · subst h; have : (0 : Int) < Lo := by decide
        omega
    subst hc
    have hm : m = dig 4294967296 9 (val 4294967296 n - Lo) := dig_of (by decide) h5 h4 (by omega)
    simp only [sub_zero h4, spl_all (ys := m) (xs := [0, 0, 0, 0, 0, 0, 0, 0, 0]) (by simp [h4]), h4, List.length_cons, List.length_nil, ↓h_bin, ↓h_binB, ↓h_binS, ↓h_binP, ↓h_un, ↓h_content, ↓h_bound, ↓h_part, ↓h_iadd, ↓h_isub, ↓h_imul, ↓h_iquo, ↓h_irem, ↓h_iand, ↓h_ior, ↓h_ixor, ↓h_iandNot, ↓h_ishl, ↓h_ishr, ↓h_ieql, ↓h_ineq, ↓h_ilss, ↓h_ileq, ↓h_igtr, ↓h_igeq, ↓h_call0, ↓h_callM0, ↓h_call1, ↓h_callM1, ↓h_call2, ↓h_callM2, ↓h_call3, ↓h_callM3, ↓h_call4, ↓h_callM4, ↓h_call5, ↓h_callM5, ↓h_call6, ↓h_callM6, ↓h_hit, ↓h_miss, ↓h_sData, ↓h_rds0, ↓h_rds1, ↓h_rdv, ↓h_rds, ↓h_rdr, ↓h_frzs0, ↓h_frzs1, ↓h_fzsl, ↓h_fzp, ↓h_fzi, ↓h_fznils, ↓h_fzrsl, ↓h_fzrcs, ↓h_fzrpi, ↓h_fzrpc, ↓h_fzint, ↓h_fzbool, ↓h_fzstr, ↓h_fzints, ↓h_fznilp, ↓h_fzagg, ↓h_build0, ↓h_build1, ↓h_build2, ↓h_fill0, ↓h_fill1, ↓y_skip, ↓y_seq, ↓y_ops, ↓y_opsC, ↓z_condT, ↓z_condF, ↓z_condAny, setX_t, ↓y_block, ↓y_exit, ↓y_ret, ↓r_nil, ↓r_g0, ↓r_g1, ↓z_gHit, ↓z_gMiss, ↓z_gTup, ↓z_gAny, Wi_app, ↓y_loop, ↓x_mov, ↓x_movS, ↓z_pickT, ↓z_pickF, ↓x_pick, ↓x_alloc, ↓x_box, ↓x_build, ↓x_bsl, ↓x_load, ↓x_loadN, ↓x_store, ↓x_storeN, ↓x_bin, ↓x_binB, ↓x_binS, ↓x_binP, ↓x_eqf, ↓x_un, ↓x_conv, ↓x_s2b, ↓x_b2s, ↓x_mks, ↓x_slcA, ↓x_slcS, ↓x_slcStr, ↓x_fldA, ↓x_fld, ↓x_idxA, ↓x_idxS, ↓x_idxV, ↓x_ext, ↓x_len, ↓x_lenS, ↓x_lenA, ↓x_app, ↓x_appZ, ↓x_eqnS, ↓h_appK, ↓x_copy, ↓x_mm, ↓x_nck, ↓x_mark, ↓x_idxStr, ev_t, ev_c, evs, evp, mkB, repB, fill, blen, apS_nil, apS_cons, apN_nil, apN_cons, put_some, put_none, upd_0, upd_s, updB_0, updB_s, nth_0, nth_s, nthB_0, nthB_s, ↓thenQ_n, ↓thenQ_e, ↓thenQ_r, ↓blockQ_n, ↓blockQ_e, ↓blockQ_r, ↓retQ, res, resAll, resOne, kill, apartOk, exp, injV, injB, pur, purs, purR, pursR, List.set_cons_zero, List.set_cons_succ, List.length_cons, List.length_nil, List.cons_append, List.nil_append, List.append_nil, List.append_assoc, List.length_append, List.reduceReplicate, Nat.reduceAdd, Nat.reduceMul, Nat.reduceSub, Nat.reduceEqDiff, Nat.reduceLT, Nat.zero_add, Nat.add_zero, Nat.mul_one, Int.reduceToNat, Int.toNat_natCast, Int.reduceLE, Int.reduceLT, Int.reduceEq, reduceCtorEq, ↓reduceIte, Bool.true_eq_false, Bool.false_eq_true, Bool.not_true, Bool.not_false, true_and, and_true, and_assoc, dig_length, sub_own, sub_dig, sub_rep, List.length_replicate, Nat.le_refl, forall_const, false_implies, true_implies, ne_eq, not_true_eq_false, not_false_eq_true, decide_true, decide_false, decide_eq_true_eq, decide_eq_false_iff_not, Bool.not_eq_true', Bool.not_eq_false', implies_true]
    simp [h4, out, outs, out1, pur, sub, hm.symm]
end Am
set_option linter.unusedSimpArgs false
set_option linter.unusedVariables false
set_option maxRecDepth 20000
namespace Am
open Go.Proofs
theorem mod_once {x : Int} (h0 : 0 ≤ x) (h1 : x < 2 * Lo) (h : Lo ≤ x) : x % Lo = x - Lo := by
  have := Lo_pos
  rw [← Int.sub_emod_right x Lo]
  exact Int.emod_eq_of_lt (by omega) (by omega)
def pre28 (ds : List D) : Prop := ∃ n bit, ds = [.v (.ints .u32 n), .v (.int .u32 bit)] ∧ n.length = 9 ∧ Dig 4294967296 n ∧ val 4294967296 n < Lo ∧ 0 ≤ bit ∧ bit ≤ 1
def F28 : List D → Out
  | [.v (.ints _ n), .v (.int _ bit)] => .one (.v (.ints .u32 (dig 4294967296 9 ((2 * val 4294967296 n + bit) % Lo))))
  | _ => bad
def s28 : Summ := sData [.v, .v] pre28 F28
theorem ok28 : SumOK Tryd.prog gl 28 s28 ∧ SumAbs s28 := by
  refine fsum (l := [(30, s30), (31, s31)]) mixed gl_plain rfl Tryd.func28 comp28 compR28 nt28 (by simp only [List.mem_cons, List.not_mem_nil, or_false, forall_eq_or_imp, forall_eq]; exact ⟨ok30, ok31⟩) fun ds ⟨n, bit0, hd, hn, hw, hlt, hb0, hb1⟩ hA => ?_
  subst hd
  simp only [s30, s31]
  simp only [ir28, rs28, gl, F28, s30, s31, F30, F31, ↓h_bin, ↓h_binB, ↓h_binS, ↓h_binP, ↓h_un, ↓h_content, ↓h_bound, ↓h_part, ↓h_iadd, ↓h_isub, ↓h_imul, ↓h_iquo, ↓h_irem, ↓h_iand, ↓h_ior, ↓h_ixor, ↓h_iandNot, ↓h_ishl, ↓h_ishr, ↓h_ieql, ↓h_ineq, ↓h_ilss, ↓h_ileq, ↓h_igtr, ↓h_igeq, ↓h_call0, ↓h_callM0, ↓h_call1, ↓h_callM1, ↓h_call2, ↓h_callM2, ↓h_call3, ↓h_callM3, ↓h_call4, ↓h_callM4, ↓h_call5, ↓h_callM5, ↓h_call6, ↓h_callM6, ↓h_hit, ↓h_miss, ↓h_sData, ↓h_rds0, ↓h_rds1, ↓h_rdv, ↓h_rds, ↓h_rdr, ↓h_frzs0, ↓h_frzs1, ↓h_fzsl, ↓h_fzp, ↓h_fzi, ↓h_fznils, ↓h_fzrsl, ↓h_fzrcs, ↓h_fzrpi, ↓h_fzrpc, ↓h_fzint, ↓h_fzbool, ↓h_fzstr, ↓h_fzints, ↓h_fznilp, ↓h_fzagg, ↓h_build0, ↓h_build1, ↓h_build2, ↓h_fill0, ↓h_fill1, ↓y_skip, ↓y_seq, ↓y_ops, ↓y_opsC, ↓z_condT, ↓z_condF, ↓z_condAny, setX_t, ↓y_block, ↓y_exit, ↓y_ret, ↓r_nil, ↓r_g0, ↓r_g1, ↓z_gHit, ↓z_gMiss, ↓z_gTup, ↓z_gAny, Wi_app, ↓y_loop, ↓x_mov, ↓x_movS, ↓z_pickT, ↓z_pickF, ↓x_pick, ↓x_alloc, ↓x_box, ↓x_build, ↓x_bsl, ↓x_load, ↓x_loadN, ↓x_store, ↓x_storeN, ↓x_bin, ↓x_binB, ↓x_binS, ↓x_binP, ↓x_eqf, ↓x_un, ↓x_conv, ↓x_s2b, ↓x_b2s, ↓x_mks, ↓x_slcA, ↓x_slcS, ↓x_slcStr, ↓x_fldA, ↓x_fld, ↓x_idxA, ↓x_idxS, ↓x_idxV, ↓x_ext, ↓x_len, ↓x_lenS, ↓x_lenA, ↓x_app, ↓x_appZ, ↓x_eqnS, ↓h_appK, ↓x_copy, ↓x_mm, ↓x_nck, ↓x_mark, ↓x_idxStr, ev_t, ev_c, evs, evp, mkB, repB, fill, blen, apS_nil, apS_cons, apN_nil, apN_cons, put_some, put_none, upd_0, upd_s, updB_0, updB_s, nth_0, nth_s, nthB_0, nthB_s, ↓thenQ_n, ↓thenQ_e, ↓thenQ_r, ↓blockQ_n, ↓blockQ_e, ↓blockQ_r, ↓retQ, res, resAll, resOne, kill, apartOk, exp, injV, injB, pur, purs, purR, pursR, List.set_cons_zero, List.set_cons_succ, List.length_cons, List.length_nil, List.cons_append, List.nil_append, List.append_nil, List.append_assoc, List.length_append, List.reduceReplicate, Nat.reduceAdd, Nat.reduceMul, Nat.reduceSub, Nat.reduceEqDiff, Nat.reduceLT, Nat.zero_add, Nat.add_zero, Nat.mul_one, Int.reduceToNat, Int.toNat_natCast, Int.reduceLE, Int.reduceLT, Int.reduceEq, reduceCtorEq, ↓reduceIte, Bool.true_eq_false, Bool.false_eq_true, Bool.not_true, Bool.not_false, true_and, and_true, and_assoc, dig_length, sub_own, sub_dig, sub_rep, List.length_replicate, Nat.le_refl, forall_const, false_implies, true_implies, ne_eq, not_true_eq_false, not_false_eq_true, decide_true, decide_false, decide_eq_true_eq, decide_eq_false_iff_not, Bool.not_eq_true', Bool.not_eq_false', implies_true]
  refine awp_loopK hA (fun x : Nat × Int × List Int => ⟨[.undef, .int .u32 x.2.1, .ptr 4 0, .undef, .ptr 5 0, .undef, .int .i64 x.1] ++ List.replicate 20 .undef, [.ints true .u32 ord, .dead, .dead, .dead, .ints false .u32 x.2.2, .ints false .u32 [0, 0, 0, 0, 0, 0, 0, 0, 0]]⟩)
    (fun x => x.1 ≤ 9 ∧ 0 ≤ x.2.1 ∧ x.2.1 ≤ 1 ∧ x.2.2.length = 9 ∧ Dig 4294967296 x.2.2 ∧ (∀ j, x.1 ≤ j → getI x.2.2 j = getI n j) ∧
      val 4294967296 (x.2.2.take x.1) + x.2.1 * 4294967296 ^ x.1 = 2 * val 4294967296 (n.take x.1) + bit0) (fun x => 9 - x.1) (0, bit0, n) (by simp only [↓h_bin, ↓h_binB, ↓h_binS, ↓h_binP, ↓h_un, ↓h_content, ↓h_bound, ↓h_part, ↓h_iadd, ↓h_isub, ↓h_imul, ↓h_iquo, ↓h_irem, ↓h_iand, ↓h_ior, ↓h_ixor, ↓h_iandNot, ↓h_ishl, ↓h_ishr, ↓h_ieql, ↓h_ineq, ↓h_ilss, ↓h_ileq, ↓h_igtr, ↓h_igeq, ↓h_call0, ↓h_callM0, ↓h_call1, ↓h_callM1, ↓h_call2, ↓h_callM2, ↓h_call3, ↓h_callM3, ↓h_call4, ↓h_callM4, ↓h_call5, ↓h_callM5, ↓h_call6, ↓h_callM6, ↓h_hit, ↓h_miss, ↓h_sData, ↓h_rds0, ↓h_rds1, ↓h_rdv, ↓h_rds, ↓h_rdr, ↓h_frzs0, ↓h_frzs1, ↓h_fzsl, ↓h_fzp, ↓h_fzi, ↓h_fznils, ↓h_fzrsl, ↓h_fzrcs, ↓h_fzrpi, ↓h_fzrpc, ↓h_fzint, ↓h_fzbool, ↓h_fzstr, ↓h_fzints, ↓h_fznilp, ↓h_fzagg, ↓h_build0, ↓h_build1, ↓h_build2, ↓h_fill0, ↓h_fill1, ↓y_skip, ↓y_seq, ↓y_ops, ↓y_opsC, ↓z_condT, ↓z_condF, ↓z_condAny, setX_t, ↓y_block, ↓y_exit, ↓y_ret, ↓r_nil, ↓r_g0, ↓r_g1, ↓z_gHit, ↓z_gMiss, ↓z_gTup, ↓z_gAny, Wi_app, ↓y_loop, ↓x_mov, ↓x_movS, ↓z_pickT, ↓z_pickF, ↓x_pick, ↓x_alloc, ↓x_box, ↓x_build, ↓x_bsl, ↓x_load, ↓x_loadN, ↓x_store, ↓x_storeN, ↓x_bin, ↓x_binB, ↓x_binS, ↓x_binP, ↓x_eqf, ↓x_un, ↓x_conv, ↓x_s2b, ↓x_b2s, ↓x_mks, ↓x_slcA, ↓x_slcS, ↓x_slcStr, ↓x_fldA, ↓x_fld, ↓x_idxA, ↓x_idxS, ↓x_idxV, ↓x_ext, ↓x_len, ↓x_lenS, ↓x_lenA, ↓x_app, ↓x_appZ, ↓x_eqnS, ↓h_appK, ↓x_copy, ↓x_mm, ↓x_nck, ↓x_mark, ↓x_idxStr, ev_t, ev_c, evs, evp, mkB, repB, fill, blen, apS_nil, apS_cons, apN_nil, apN_cons, put_some, put_none, upd_0, upd_s, updB_0, updB_s, nth_0, nth_s, nthB_0, nthB_s, ↓thenQ_n, ↓thenQ_e, ↓thenQ_r, ↓blockQ_n, ↓blockQ_e, ↓blockQ_r, ↓retQ, res, resAll, resOne, kill, apartOk, exp, injV, injB, pur, purs, purR, pursR, List.set_cons_zero, List.set_cons_succ, List.length_cons, List.length_nil, List.cons_append, List.nil_append, List.append_nil, List.append_assoc, List.length_append, List.reduceReplicate, Nat.reduceAdd, Nat.reduceMul, Nat.reduceSub, Nat.reduceEqDiff, Nat.reduceLT, Nat.zero_add, Nat.add_zero, Nat.mul_one, Int.reduceToNat, Int.toNat_natCast, Int.reduceLE, Int.reduceLT, Int.reduceEq, reduceCtorEq, ↓reduceIte, Bool.true_eq_false, Bool.false_eq_true, Bool.not_true, Bool.not_false, true_and, and_true, and_assoc, dig_length, sub_own, sub_dig, sub_rep, List.length_replicate, Nat.le_refl, forall_const, false_implies, true_implies, ne_eq, not_true_eq_false, not_false_eq_true, decide_true, decide_false, decide_eq_true_eq, decide_eq_false_iff_not, Bool.not_eq_true', Bool.not_eq_false', implies_true]; rfl) ⟨by simp, hb0, hb1, hn, hw, by simp, by simp [val]⟩ ?_
  rintro ⟨i, c, m⟩ ⟨h1, h2, h3, h4, h5, h6, h7⟩ K hK
  simp only [] at h1 h2 h3 h4 h5 h6 h7
  simp only [s30, s31, F30, F31, ↓h_bin, ↓h_binB, ↓h_binS, ↓h_binP, ↓h_un, ↓h_content, ↓h_bound, ↓h_part, ↓h_iadd, ↓h_isub, ↓h_imul, ↓h_iquo, ↓h_irem, ↓h_iand, ↓h_ior, ↓h_ixor, ↓h_iandNot, ↓h_ishl, ↓h_ishr, ↓h_ieql, ↓h_ineq, ↓h_ilss, ↓h_ileq, ↓h_igtr, ↓h_igeq, ↓h_call0, ↓h_callM0, ↓h_call1, ↓h_callM1, ↓h_call2, ↓h_callM2, ↓h_call3, ↓h_callM3, ↓h_call4, ↓h_callM4, ↓h_call5, ↓h_callM5, ↓h_call6, ↓h_callM6, ↓h_hit, ↓h_miss, ↓h_sData, ↓h_rds0, ↓h_rds1, ↓h_rdv, ↓h_rds, ↓h_rdr, ↓h_frzs0, ↓h_frzs1, ↓h_fzsl, ↓h_fzp, ↓h_fzi, ↓h_fznils, ↓h_fzrsl, ↓h_fzrcs, ↓h_fzrpi, ↓h_fzrpc, ↓h_fzint, ↓h_fzbool, ↓h_fzstr, ↓h_fzints, ↓h_fznilp, ↓h_fzagg, ↓h_build0, ↓h_build1, ↓h_build2, ↓h_fill0, ↓h_fill1, ↓y_skip, ↓y_seq, ↓y_ops, ↓y_opsC, ↓z_condT, ↓z_condF, ↓z_condAny, setX_t, ↓y_block, ↓y_exit, ↓y_ret, ↓r_nil, ↓r_g0, ↓r_g1, ↓z_gHit, ↓z_gMiss, ↓z_gTup, ↓z_gAny, Wi_app, ↓y_loop, ↓x_mov, ↓x_movS, ↓z_pickT, ↓z_pickF, ↓x_pick, ↓x_alloc, ↓x_box, ↓x_build, ↓x_bsl, ↓x_load, ↓x_loadN, ↓x_store, ↓x_storeN, ↓x_bin, ↓x_binB, ↓x_binS, ↓x_binP, ↓x_eqf, ↓x_un, ↓x_conv, ↓x_s2b, ↓x_b2s, ↓x_mks, ↓x_slcA, ↓x_slcS, ↓x_slcStr, ↓x_fldA, ↓x_fld, ↓x_idxA, ↓x_idxS, ↓x_idxV, ↓x_ext, ↓x_len, ↓x_lenS, ↓x_lenA, ↓x_app, ↓x_appZ, ↓x_eqnS, ↓h_appK, ↓x_copy, ↓x_mm, ↓x_nck, ↓x_mark, ↓x_idxStr, ev_t, ev_c, evs, evp, mkB, repB, fill, blen, apS_nil, apS_cons, apN_nil, apN_cons, put_some, put_none, upd_0, upd_s, updB_0, updB_s, nth_0, nth_s, nthB_0, nthB_s, ↓thenQ_n, ↓thenQ_e, ↓thenQ_r, ↓blockQ_n, ↓blockQ_e, ↓blockQ_r, ↓retQ, res, resAll, resOne, kill, apartOk, exp, injV, injB, pur, purs, purR, pursR, List.set_cons_zero, List.set_cons_succ, List.length_cons, List.length_nil, List.cons_append, List.nil_append, List.append_nil, List.append_assoc, List.length_append, List.reduceReplicate, Nat.reduceAdd, Nat.reduceMul, Nat.reduceSub, Nat.reduceEqDiff, Nat.reduceLT, Nat.zero_add, Nat.add_zero, Nat.mul_one, Int.reduceToNat, Int.toNat_natCast, Int.reduceLE, Int.reduceLT, Int.reduceEq, reduceCtorEq, ↓reduceIte, Bool.true_eq_false, Bool.false_eq_true, Bool.not_true, Bool.not_false, true_and, and_true, and_assoc, dig_length, sub_own, sub_dig, sub_rep, List.length_replicate, Nat.le_refl, forall_const, false_implies, true_implies, ne_eq, not_true_eq_false, not_false_eq_true, decide_true, decide_false, decide_eq_true_eq, decide_eq_false_iff_not, Bool.not_eq_true', Bool.not_eq_false', implies_true]
  refine ⟨fun hi => ?_, fun hi => ?_⟩
  · try simp only [decide_eq_true_eq] at hi
    have hi : i < 9 := by omega
    have hd := h5.get (show i < m.length by omega)
    have hmi := h6 i (Nat.le_refl i)
    have hor : Go.IntKind.u32.wrap (getI m i * 2 ^ (min (Int.toNat 1) Go.IntKind.u32.bits)) = (2 * getI m i) % 4294967296 := by
      simp only [wrap_u8, wrap_u16, wrap_u32, wrap_u64, iShr_eq, Go.IntKind.bits, Int.reduceToNat, Int.toNat_natCast, Nat.min_def, Nat.reduceLeDiff, reduceIte, Int.reducePow]; omega
    have hbor : bOr .u32 (iShl .u32 (getI m i) 1) c = (2 * getI m i) % 4294967296 + c := by
      unfold iShl
      rw [hor]
      exact bOr_add .u32 1 _ _ (by omega) (by simp only [Go.IntKind.bits]; omega) (by omega) h2 (by omega) (by decide) rfl
    have hshr : iShr .u32 (getI m i) 31 = getI m i / 2147483648 := by simp only [wrap_u8, wrap_u16, wrap_u32, wrap_u64, iShr_eq, Go.IntKind.bits, Int.reduceToNat, Int.toNat_natCast, Nat.min_def, Nat.reduceLeDiff, reduceIte, Int.reducePow]
    have hw' : Go.IntKind.i64.wrap ((i : Int) + 1) = ((i + 1 : Nat) : Int) := by rw [wrap_i64]; omega
    rw [hbor, hshr, hw']
    repeat (refine And.intro (by first | omega | rfl) ?_)
    refine ⟨(i + 1, _, m.set i _), hK _ (⟨by simp only []; omega, by simp only []; omega, by simp only []; omega, by simpa using h4, h5.set i (by omega) (by omega), fun j hj => ?_, ?_⟩) (by simp only []; omega), rfl⟩
    · rw [getI_set _ _ _ _ (by omega), if_neg (by simp only [] at hj; omega)]
      exact h6 j (by simp only [] at hj; omega)
    · simp only []
      rw [val_take_set 4294967296 _ (by omega), val_take_succ 4294967296 (xs := n) (by omega), hmi, Int.pow_succ]
      rw [hmi] at hd
      generalize (4294967296 : Int) ^ i = p at *
      have e1 : (2 * getI n i) % 4294967296 + c = 2 * getI n i + c - getI n i / 2147483648 * 4294967296 := by omega
      rw [e1, Int.mul_sub, Int.mul_add, Int.mul_left_comm p (getI n i / 2147483648), Int.mul_comm p c, Int.mul_left_comm p 2, Int.mul_add 2]
      omega
  · try simp only [decide_eq_false_iff_not] at hi
    have hi : i = 9 := by omega
    subst hi
    have hb := val_bound (by decide : (0 : Int) < 4294967296) h5
    rw [List.take_of_length_le (by omega), List.take_of_length_le (by omega)] at h7
    rw [h4] at hb
    have hb2 := val_bound (by decide : (0 : Int) < 4294967296) hw
    have hL2 : 2 * Lo < 4294967296 ^ 9 := by decide
    have hc : c = 0 := by
      rcases (by omega : c = 0 ∨ c = 1) with h | h
      · exact h
      · subst h; omega
    subst hc
    have hv : val 4294967296 m = 2 * val 4294967296 n + bit0 := by omega
    rw [sub_zero h4]
    repeat (refine And.intro (by first | omega | rfl) ?_)
    refine ⟨⟨m, rfl, h4, h5⟩, fun hle => ?_, fun hle => ?_⟩
    · try simp only [decide_eq_true_eq] at hle
      have hr : (2 * val 4294967296 n + bit0) % Lo = val 4294967296 m - Lo := by rw [hv]; exact mod_once (by omega) (by omega) (by omega)
      simp only [sub_zero, spl_all, dig_length, List.length_cons, List.length_nil, Nat.reduceAdd, Nat.le_refl, Nat.reduceLeDiff, Nat.reduceLT, true_and, and_true, h4, hr]
      exact ⟨⟨m, rfl, h4, h5, hle⟩, out_ints rfl⟩
    · try simp only [decide_eq_false_iff_not] at hle
      have hr : (2 * val 4294967296 n + bit0) % Lo = val 4294967296 m := by rw [hv]; exact Int.emod_eq_of_lt (by omega) (by omega)
      simp only [sub_zero, spl_all, dig_length, List.length_cons, List.length_nil, Nat.reduceAdd, Nat.le_refl, Nat.reduceLeDiff, Nat.reduceLT, true_and, and_true, h4, hr]
      exact out_ints (dig_of (by decide) h5 h4 rfl)
def pre29 (ds : List D) : Prop := ∃ a b, ds = [.v (.ints .u32 a), .v (.ints .u32 b)] ∧ a.length = 9 ∧ Dig 4294967296 a ∧ val 4294967296 a < Lo ∧ b.length = 9 ∧ Dig 4294967296 b ∧ val 4294967296 b < Lo
def F29 : List D → Out
  | [.v (.ints _ a), .v (.ints _ b)] => .one (.v (.ints .u32 (dig 4294967296 9 ((val 4294967296 a + val 4294967296 b) % Lo))))
  | _ => bad
def s29 : Summ := sData [.v, .v] pre29 F29
theorem ok29 : SumOK Tryd.prog gl 29 s29 ∧ SumAbs s29 := by
  refine fsum (l := [(30, s30), (31, s31)]) mixed gl_plain rfl Tryd.func29 comp29 compR29 nt29 (by simp only [List.mem_cons, List.not_mem_nil, or_false, forall_eq_or_imp, forall_eq]; exact ⟨ok30, ok31⟩) fun ds ⟨n, b, hd, hn, hw, hlt, hbn, hbw, hblt⟩ hA => ?_
  subst hd
  simp only [s30, s31]
  simp only [ir29, rs29, gl, F29, s30, s31, F30, F31, ↓h_bin, ↓h_binB, ↓h_binS, ↓h_binP, ↓h_un, ↓h_content, ↓h_bound, ↓h_part, ↓h_iadd, ↓h_isub, ↓h_imul, ↓h_iquo, ↓h_irem, ↓h_iand, ↓h_ior, ↓h_ixor, ↓h_iandNot, ↓h_ishl, ↓h_ishr, ↓h_ieql, ↓h_ineq, ↓h_ilss, ↓h_ileq, ↓h_igtr, ↓h_igeq, ↓h_call0, ↓h_callM0, ↓h_call1, ↓h_callM1, ↓h_call2, ↓h_callM2, ↓h_call3, ↓h_callM3, ↓h_call4, ↓h_callM4, ↓h_call5, ↓h_callM5, ↓h_call6, ↓h_callM6, ↓h_hit, ↓h_miss, ↓h_sData, ↓h_rds0, ↓h_rds1, ↓h_rdv, ↓h_rds, ↓h_rdr, ↓h_frzs0, ↓h_frzs1, ↓h_fzsl, ↓h_fzp, ↓h_fzi, ↓h_fznils, ↓h_fzrsl, ↓h_fzrcs, ↓h_fzrpi, ↓h_fzrpc, ↓h_fzint, ↓h_fzbool, ↓h_fzstr, ↓h_fzints, ↓h_fznilp, ↓h_fzagg, ↓h_build0, ↓h_build1, ↓h_build2, ↓h_fill0, ↓h_fill1, ↓y_skip, ↓y_seq, ↓y_ops, ↓y_opsC, ↓z_condT, ↓z_condF, ↓z_condAny, setX_t, ↓y_block, ↓y_exit, ↓y_ret, ↓r_nil, ↓r_g0, ↓r_g1, ↓z_gHit, ↓z_gMiss, ↓z_gTup, ↓z_gAny, Wi_app, ↓y_loop, ↓x_mov, ↓x_movS, ↓z_pickT, ↓z_pickF, ↓x_pick, ↓x_alloc, ↓x_box, ↓x_build, ↓x_bsl, ↓x_load, ↓x_loadN, ↓x_store, ↓x_storeN, ↓x_bin, ↓x_binB, ↓x_binS, ↓x_binP, ↓x_eqf, ↓x_un, ↓x_conv, ↓x_s2b, ↓x_b2s, ↓x_mks, ↓x_slcA, ↓x_slcS, ↓x_slcStr, ↓x_fldA, ↓x_fld, ↓x_idxA, ↓x_idxS, ↓x_idxV, ↓x_ext, ↓x_len, ↓x_lenS, ↓x_lenA, ↓x_app, ↓x_appZ, ↓x_eqnS, ↓h_appK, ↓x_copy, ↓x_mm, ↓x_nck, ↓x_mark, ↓x_idxStr, ev_t, ev_c, evs, evp, mkB, repB, fill, blen, apS_nil, apS_cons, apN_nil, apN_cons, put_some, put_none, upd_0, upd_s, updB_0, updB_s, nth_0, nth_s, nthB_0, nthB_s, ↓thenQ_n, ↓thenQ_e, ↓thenQ_r, ↓blockQ_n, ↓blockQ_e, ↓blockQ_r, ↓retQ, res, resAll, resOne, kill, apartOk, exp, injV, injB, pur, purs, purR, pursR, List.set_cons_zero, List.set_cons_succ, List.length_cons, List.length_nil, List.cons_append, List.nil_append, List.append_nil, List.append_assoc, List.length_append, List.reduceReplicate, Nat.reduceAdd, Nat.reduceMul, Nat.reduceSub, Nat.reduceEqDiff, Nat.reduceLT, Nat.zero_add, Nat.add_zero, Nat.mul_one, Int.reduceToNat, Int.toNat_natCast, Int.reduceLE, Int.reduceLT, Int.reduceEq, reduceCtorEq, ↓reduceIte, Bool.true_eq_false, Bool.false_eq_true, Bool.not_true, Bool.not_false, true_and, and_true, and_assoc, dig_length, sub_own, sub_dig, sub_rep, List.length_replicate, Nat.le_refl, forall_const, false_implies, true_implies, ne_eq, not_true_eq_false, not_false_eq_true, decide_true, decide_false, decide_eq_true_eq, decide_eq_false_iff_not, Bool.not_eq_true', Bool.not_eq_false', implies_true]
  refine awp_loopK hA (fun x : Nat × Int × List Int => ⟨[.undef, .undef, .ptr 4 0, .ptr 5 0, .ptr 6 0, .int .u64 x.2.1, .undef, .int .i64 x.1] ++ List.replicate 25 .undef, [.ints true .u32 ord, .dead, .dead, .dead, .ints false .u32 x.2.2, .ints false .u32 b, .ints false .u32 [0, 0, 0, 0, 0, 0, 0, 0, 0]]⟩)
    (fun x => x.1 ≤ 9 ∧ 0 ≤ x.2.1 ∧ x.2.1 ≤ 1 ∧ x.2.2.length = 9 ∧ Dig 4294967296 x.2.2 ∧ (∀ j, x.1 ≤ j → getI x.2.2 j = getI n j) ∧
      val 4294967296 (x.2.2.take x.1) + x.2.1 * 4294967296 ^ x.1 = val 4294967296 (n.take x.1) + val 4294967296 (b.take x.1)) (fun x => 9 - x.1) (0, 0, n) (by simp only [↓h_bin, ↓h_binB, ↓h_binS, ↓h_binP, ↓h_un, ↓h_content, ↓h_bound, ↓h_part, ↓h_iadd, ↓h_isub, ↓h_imul, ↓h_iquo, ↓h_irem, ↓h_iand, ↓h_ior, ↓h_ixor, ↓h_iandNot, ↓h_ishl, ↓h_ishr, ↓h_ieql, ↓h_ineq, ↓h_ilss, ↓h_ileq, ↓h_igtr, ↓h_igeq, ↓h_call0, ↓h_callM0, ↓h_call1, ↓h_callM1, ↓h_call2, ↓h_callM2, ↓h_call3, ↓h_callM3, ↓h_call4, ↓h_callM4, ↓h_call5, ↓h_callM5, ↓h_call6, ↓h_callM6, ↓h_hit, ↓h_miss, ↓h_sData, ↓h_rds0, ↓h_rds1, ↓h_rdv, ↓h_rds, ↓h_rdr, ↓h_frzs0, ↓h_frzs1, ↓h_fzsl, ↓h_fzp, ↓h_fzi, ↓h_fznils, ↓h_fzrsl, ↓h_fzrcs, ↓h_fzrpi, ↓h_fzrpc, ↓h_fzint, ↓h_fzbool, ↓h_fzstr, ↓h_fzints, ↓h_fznilp, ↓h_fzagg, ↓h_build0, ↓h_build1, ↓h_build2, ↓h_fill0, ↓h_fill1, ↓y_skip, ↓y_seq, ↓y_ops, ↓y_opsC, ↓z_condT, ↓z_condF, ↓z_condAny, setX_t, ↓y_block, ↓y_exit, ↓y_ret, ↓r_nil, ↓r_g0, ↓r_g1, ↓z_gHit, ↓z_gMiss, ↓z_gTup, ↓z_gAny, Wi_app, ↓y_loop, ↓x_mov, ↓x_movS, ↓z_pickT, ↓z_pickF, ↓x_pick, ↓x_alloc, ↓x_box, ↓x_build, ↓x_bsl, ↓x_load, ↓x_loadN, ↓x_store, ↓x_storeN, ↓x_bin, ↓x_binB, ↓x_binS, ↓x_binP, ↓x_eqf, ↓x_un, ↓x_conv, ↓x_s2b, ↓x_b2s, ↓x_mks, ↓x_slcA, ↓x_slcS, ↓x_slcStr, ↓x_fldA, ↓x_fld, ↓x_idxA, ↓x_idxS, ↓x_idxV, ↓x_ext, ↓x_len, ↓x_lenS, ↓x_lenA, ↓x_app, ↓x_appZ, ↓x_eqnS, ↓h_appK, ↓x_copy, ↓x_mm, ↓x_nck, ↓x_mark, ↓x_idxStr, ev_t, ev_c, evs, evp, mkB, repB, fill, blen, apS_nil, apS_cons, apN_nil, apN_cons, put_some, put_none, upd_0, upd_s, updB_0, updB_s, nth_0, nth_s, nthB_0, nthB_s, ↓thenQ_n, ↓thenQ_e, ↓thenQ_r, ↓blockQ_n, ↓blockQ_e, ↓blockQ_r, ↓retQ, res, resAll, resOne, kill, apartOk, exp, injV, injB, pur, purs, purR, pursR, List.set_cons_zero, List.set_cons_succ, List.length_cons, List.length_nil, List.cons_append, List.nil_append, List.append_nil, List.append_assoc, List.length_append, List.reduceReplicate, Nat.reduceAdd, Nat.reduceMul, Nat.reduceSub, Nat.reduceEqDiff, Nat.reduceLT, Nat.zero_add, Nat.add_zero, Nat.mul_one, Int.reduceToNat, Int.toNat_natCast, Int.reduceLE, Int.reduceLT, Int.reduceEq, reduceCtorEq, ↓reduceIte, Bool.true_eq_false, Bool.false_eq_true, Bool.not_true, Bool.not_false, true_and, and_true, and_assoc, dig_length, sub_own, sub_dig, sub_rep, List.length_replicate, Nat.le_refl, forall_const, false_implies, true_implies, ne_eq, not_true_eq_false, not_false_eq_true, decide_true, decide_false, decide_eq_true_eq, decide_eq_false_iff_not, Bool.not_eq_true', Bool.not_eq_false', implies_true]; rfl) ⟨by simp, by simp, by simp, hn, hw, by simp, by simp [val]⟩ ?_
  rintro ⟨i, c, m⟩ ⟨h1, h2, h3, h4, h5, h6, h7⟩ K hK
  simp only [] at h1 h2 h3 h4 h5 h6 h7
  simp only [s30, s31, F30, F31, ↓h_bin, ↓h_binB, ↓h_binS, ↓h_binP, ↓h_un, ↓h_content, ↓h_bound, ↓h_part, ↓h_iadd, ↓h_isub, ↓h_imul, ↓h_iquo, ↓h_irem, ↓h_iand, ↓h_ior, ↓h_ixor, ↓h_iandNot, ↓h_ishl, ↓h_ishr, ↓h_ieql, ↓h_ineq, ↓h_ilss, ↓h_ileq, ↓h_igtr, ↓h_igeq, ↓h_call0, ↓h_callM0, ↓h_call1, ↓h_callM1, ↓h_call2, ↓h_callM2, ↓h_call3, ↓h_callM3, ↓h_call4, ↓h_callM4, ↓h_call5, ↓h_callM5, ↓h_call6, ↓h_callM6, ↓h_hit, ↓h_miss, ↓h_sData, ↓h_rds0, ↓h_rds1, ↓h_rdv, ↓h_rds, ↓h_rdr, ↓h_frzs0, ↓h_frzs1, ↓h_fzsl, ↓h_fzp, ↓h_fzi, ↓h_fznils, ↓h_fzrsl, ↓h_fzrcs, ↓h_fzrpi, ↓h_fzrpc, ↓h_fzint, ↓h_fzbool, ↓h_fzstr, ↓h_fzints, ↓h_fznilp, ↓h_fzagg, ↓h_build0, ↓h_build1, ↓h_build2, ↓h_fill0, ↓h_fill1, ↓y_skip, ↓y_seq, ↓y_ops, ↓y_opsC, ↓z_condT, ↓z_condF, ↓z_condAny, setX_t, ↓y_block, ↓y_exit, ↓y_ret, ↓r_nil, ↓r_g0, ↓r_g1, ↓z_gHit, ↓z_gMiss, ↓z_gTup, ↓z_gAny, Wi_app, ↓y_loop, ↓x_mov, ↓x_movS, ↓z_pickT, ↓z_pickF, ↓x_pick, ↓x_alloc, ↓x_box, ↓x_build, ↓x_bsl, ↓x_load, ↓x_loadN, ↓x_store, ↓x_storeN, ↓x_bin, ↓x_binB, ↓x_binS, ↓x_binP, ↓x_eqf, ↓x_un, ↓x_conv, ↓x_s2b, ↓x_b2s, ↓x_mks, ↓x_slcA, ↓x_slcS, ↓x_slcStr, ↓x_fldA, ↓x_fld, ↓x_idxA, ↓x_idxS, ↓x_idxV, ↓x_ext, ↓x_len, ↓x_lenS, ↓x_lenA, ↓x_app, ↓x_appZ, ↓x_eqnS, ↓h_appK, ↓x_copy, ↓x_mm, ↓x_nck, ↓x_mark, ↓x_idxStr, ev_t, ev_c, evs, evp, mkB, repB, fill, blen, apS_nil, apS_cons, apN_nil, apN_cons, put_some, put_none, upd_0, upd_s, updB_0, updB_s, nth_0, nth_s, nthB_0, nthB_s, ↓thenQ_n, ↓thenQ_e, ↓thenQ_r, ↓blockQ_n, ↓blockQ_e, ↓blockQ_r, ↓retQ, res, resAll, resOne, kill, apartOk, exp, injV, injB, pur, purs, purR, pursR, List.set_cons_zero, List.set_cons_succ, List.length_cons, List.length_nil, List.cons_append, List.nil_append, List.append_nil, List.append_assoc, List.length_append, List.reduceReplicate, Nat.reduceAdd, Nat.reduceMul, Nat.reduceSub, Nat.reduceEqDiff, Nat.reduceLT, Nat.zero_add, Nat.add_zero, Nat.mul_one, Int.reduceToNat, Int.toNat_natCast, Int.reduceLE, Int.reduceLT, Int.reduceEq, reduceCtorEq, ↓reduceIte, Bool.true_eq_false, Bool.false_eq_true, Bool.not_true, Bool.not_false, true_and, and_true, and_assoc, dig_length, sub_own, sub_dig, sub_rep, List.length_replicate, Nat.le_refl, forall_const, false_implies, true_implies, ne_eq, not_true_eq_false, not_false_eq_true, decide_true, decide_false, decide_eq_true_eq, decide_eq_false_iff_not, Bool.not_eq_true', Bool.not_eq_false', implies_true]
  refine ⟨fun hi => ?_, fun hi => ?_⟩
  · try simp only [decide_eq_true_eq] at hi
    have hi : i < 9 := by omega
    have hd := h5.get (show i < m.length by omega)
    have hdb := hbw.get (show i < b.length by omega)
    have hmi := h6 i (Nat.le_refl i)
    have hw' : Go.IntKind.i64.wrap ((i : Int) + 1) = ((i + 1 : Nat) : Int) := by rw [wrap_i64]; omega
    rw [hw']
    simp only [wrap_u8, wrap_u16, wrap_u32, wrap_u64, iShr_eq, Go.IntKind.bits, Int.reduceToNat, Int.toNat_natCast, Nat.min_def, Nat.reduceLeDiff, reduceIte, Int.reducePow]
    repeat (refine And.intro (by first | omega | rfl) ?_)
    refine ⟨(i + 1, _, m.set i _), hK _ (⟨by simp only []; omega, by simp only []; omega, by simp only []; omega, by simpa using h4, h5.set i (by omega) (by omega), fun j hj => ?_, ?_⟩) (by simp only []; omega), rfl⟩
    · rw [getI_set _ _ _ _ (by omega), if_neg (by simp only [] at hj; omega)]
      exact h6 j (by simp only [] at hj; omega)
    · simp only []
      rw [val_take_set 4294967296 _ (by omega), val_take_succ 4294967296 (xs := n) (by omega), val_take_succ 4294967296 (xs := b) (by omega), hmi, Int.pow_succ]
      rw [hmi] at hd
      generalize (4294967296 : Int) ^ i = p at *
      generalize hq : (c + (getI n i % 18446744073709551616 + getI b i % 18446744073709551616) % 18446744073709551616) % 18446744073709551616 / 4294967296 = q
      have e1 : (c + (getI n i % 18446744073709551616 + getI b i % 18446744073709551616) % 18446744073709551616) % 18446744073709551616 % 4294967296 = c + getI n i + getI b i - q * 4294967296 := by omega
      rw [e1, Int.mul_sub, Int.mul_add, Int.mul_add, Int.mul_left_comm p q, Int.mul_comm p c]
      omega
  · try simp only [decide_eq_false_iff_not] at hi
    have hi : i = 9 := by omega
    subst hi
    have hb := val_bound (by decide : (0 : Int) < 4294967296) h5
    rw [List.take_of_length_le (by omega), List.take_of_length_le (by omega), List.take_of_length_le (by omega)] at h7
    rw [h4] at hb
    have hb2 := val_bound (by decide : (0 : Int) < 4294967296) hw
    have hb3 := val_bound (by decide : (0 : Int) < 4294967296) hbw
    have hL2 : 2 * Lo < 4294967296 ^ 9 := by decide
    have hc : c = 0 := by
      rcases (by omega : c = 0 ∨ c = 1) with h | h
      · exact h
      · subst h; omega
    subst hc
    have hv : val 4294967296 m = val 4294967296 n + val 4294967296 b := by omega
    rw [sub_zero h4]
    repeat (refine And.intro (by first | omega | rfl) ?_)
    refine ⟨⟨m, rfl, h4, h5⟩, fun hle => ?_, fun hle => ?_⟩
    · try simp only [decide_eq_true_eq] at hle
      have hr : (val 4294967296 n + val 4294967296 b) % Lo = val 4294967296 m - Lo := by rw [hv]; exact mod_once (by omega) (by omega) (by omega)
      simp only [sub_zero, spl_all, dig_length, List.length_cons, List.length_nil, Nat.reduceAdd, Nat.le_refl, Nat.reduceLeDiff, Nat.reduceLT, true_and, and_true, h4, hr]
      exact ⟨⟨m, rfl, h4, h5, hle⟩, out_ints rfl⟩
    · try simp only [decide_eq_false_iff_not] at hle
      have hr : (val 4294967296 n + val 4294967296 b) % Lo = val 4294967296 m := by rw [hv]; exact Int.emod_eq_of_lt (by omega) (by omega)
      simp only [sub_zero, spl_all, dig_length, List.length_cons, List.length_nil, Nat.reduceAdd, Nat.le_refl, Nat.reduceLeDiff, Nat.reduceLT, true_and, and_true, h4, hr]
      exact out_ints (dig_of (by decide) h5 h4 rfl)
end Am
