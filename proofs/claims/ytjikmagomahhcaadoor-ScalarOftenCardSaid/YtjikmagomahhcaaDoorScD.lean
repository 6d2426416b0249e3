/-
Working texts: contracts of functions, and the numbers behind them.
-/
import Derived.Test.YtjikmagomahhcaaDoorBase
set_option linter.unusedSimpArgs false
set_option linter.unusedVariables false
set_option linter.unusedSectionVars false
set_option linter.unusedSimpArgs false
set_option linter.unusedVariables false
set_option maxRecDepth 20000
namespace Am
open Go.Proofs
/-- A byte of a number of parts of 32 bits. -/
theorem byte_of32 {n : List Int} (hw : Dig 4294967296 n) {i N : Nat} (hi : i < N) (hq : i / 4 < n.length) : getI (dig 256 N (val 4294967296 n)) i = getI n (i / 4) / 2 ^ (8 * (i % 4)) % 256 := by
  have hn : getI n (i / 4) = val 4294967296 n / 4294967296 ^ (i / 4) % 4294967296 := by
    have := getI_dig (B := 4294967296) (by decide) (x := val 4294967296 n) hq
    rwa [dig_val (by decide) hw] at this
  rw [getI_dig (by decide) hi, hn]
  have e : (256 : Int) ^ i = 4294967296 ^ (i / 4) * 256 ^ (i % 4) := by
    conv => lhs; rw [← Nat.div_add_mod i 4, Int.pow_add, Int.pow_mul]
    rfl
  rw [e, ← Int.ediv_ediv_of_nonneg (Int.le_of_lt (Int.pow_pos (by decide)))]
  generalize val 4294967296 n / 4294967296 ^ (i / 4) = y
  have hr : i % 4 < 4 := Nat.mod_lt _ (by decide)
  generalize i % 4 = r at hr
  rcases (by omega : r = 0 ∨ r = 1 ∨ r = 2 ∨ r = 3) with rfl | rfl | rfl | rfl <;> simp <;> omega
def pre25 (ds : List D) : Prop := ∃ n, ds = [.v (.ints .u32 n)] ∧ n.length = 9 ∧ Dig 4294967296 n
def F25 : List D → Out
  | [.v (.ints _ n)] => .one (.v (.ints .u8 (dig 256 32 (val 4294967296 n))))
  | _ => bad
def s25 : Summ := sData [.v] pre25 F25
theorem ok25 : SumOK Tryd.prog gl 25 s25 ∧ SumAbs s25 := by
  refine fsum (l := []) mixed gl_plain rfl Tryd.func25 comp25 compR25 nt25 (by simp) fun ds ⟨n, hd, hn, hw⟩ hA => ?_
  subst hd
  simp only [ir25, rs25, gl, F25, ↓h_bin, ↓h_binB, ↓h_binS, ↓h_binP, ↓h_un, ↓h_content, ↓h_bound, ↓h_part, ↓h_iadd, ↓h_isub, ↓h_imul, ↓h_iquo, ↓h_irem, ↓h_iand, ↓h_ior, ↓h_ixor, ↓h_iandNot, ↓h_ishl, ↓h_ishr, ↓h_ieql, ↓h_ineq, ↓h_ilss, ↓h_ileq, ↓h_igtr, ↓h_igeq, ↓h_call0, ↓h_callM0, ↓h_call1, ↓h_callM1, ↓h_call2, ↓h_callM2, ↓h_call3, ↓h_callM3, ↓h_call4, ↓h_callM4, ↓h_call5, ↓h_callM5, ↓h_call6, ↓h_callM6, ↓h_hit, ↓h_miss, ↓h_sData, ↓h_rds0, ↓h_rds1, ↓h_rdv, ↓h_rds, ↓h_build0, ↓h_build1, ↓h_build2, ↓h_fill0, ↓h_fill1, ↓y_skip, ↓y_seq, ↓y_ops, ↓y_opsC, ↓z_condT, ↓z_condF, ↓z_condAny, setX_t, ↓y_block, ↓y_exit, ↓y_ret, run_nil, run_g0, z_gHit, z_gMiss, z_gTup, z_gAny, ↓x_mov, ↓x_movS, ↓z_pickT, ↓z_pickF, ↓x_pick, ↓x_alloc, ↓x_box, ↓x_build, ↓x_bsl, ↓x_load, ↓x_loadN, ↓x_store, ↓x_storeN, ↓x_bin, ↓x_binB, ↓x_binS, ↓x_binP, ↓x_eqf, ↓x_un, ↓x_conv, ↓x_s2b, ↓x_b2s, ↓x_mks, ↓x_slcA, ↓x_slcS, ↓x_slcStr, ↓x_fldA, ↓x_fld, ↓x_idxA, ↓x_idxS, ↓x_idxV, ↓x_ext, ↓x_len, ↓x_lenS, ↓x_lenA, ↓x_app, ↓x_copy, ↓x_mm, ↓x_nck, ↓x_mark, ↓x_idxStr, ev_t, ev_c, evs, evp, mkB, repB, fill, blen, apS_nil, apS_cons, apN_nil, apN_cons, put_some, put_none, upd_0, upd_s, updB_0, updB_s, nth_0, nth_s, nthB_0, nthB_s, thenQ_n, thenQ_e, thenQ_r, blockQ_n, blockQ_e, blockQ_r, retQ, res, resAll, resOne, kill, apartOk, exp, injV, injB, pur, purs, List.set_cons_zero, List.set_cons_succ, List.length_cons, List.length_nil, List.cons_append, List.nil_append, List.append_nil, List.append_assoc, List.length_append, List.reduceReplicate, Nat.reduceAdd, Nat.reduceMul, Nat.reduceSub, Nat.reduceEqDiff, Nat.reduceLT, Nat.zero_add, Nat.add_zero, Nat.mul_one, Int.reduceToNat, Int.toNat_natCast, Int.reduceLE, Int.reduceLT, Int.reduceEq, reduceCtorEq, ↓reduceIte, Bool.true_eq_false, Bool.false_eq_true, Bool.not_true, Bool.not_false, true_and, and_true, and_assoc, dig_length, sub_own, sub_dig, sub_rep, List.length_replicate, Nat.le_refl, forall_const, false_implies, true_implies, ne_eq, not_true_eq_false, not_false_eq_true, decide_true, decide_false, decide_eq_true_eq, decide_eq_false_iff_not, Bool.not_eq_true', Bool.not_eq_false', implies_true]
  refine awp_loopK hA (fun x : Nat × List Int => ⟨[.undef, .ptr 4 0, .ptr 5 0, .ptr 6 0, .undef, .int .i64 x.1] ++ List.replicate 15 .undef, [.ints true .u32 ord, .dead, .dead, .dead, .ints false .u32 n, .ints false .u8 (List.replicate 32 0), .ints false .u8 x.2]⟩)
    (fun x => x.1 ≤ 32 ∧ x.2.length = 32 ∧ ∀ j, j < x.1 → getI x.2 j = getI (dig 256 32 (val 4294967296 n)) j) (fun x => 32 - x.1) (0, List.replicate 32 0) (by simp only [↓h_bin, ↓h_binB, ↓h_binS, ↓h_binP, ↓h_un, ↓h_content, ↓h_bound, ↓h_part, ↓h_iadd, ↓h_isub, ↓h_imul, ↓h_iquo, ↓h_irem, ↓h_iand, ↓h_ior, ↓h_ixor, ↓h_iandNot, ↓h_ishl, ↓h_ishr, ↓h_ieql, ↓h_ineq, ↓h_ilss, ↓h_ileq, ↓h_igtr, ↓h_igeq, ↓h_call0, ↓h_callM0, ↓h_call1, ↓h_callM1, ↓h_call2, ↓h_callM2, ↓h_call3, ↓h_callM3, ↓h_call4, ↓h_callM4, ↓h_call5, ↓h_callM5, ↓h_call6, ↓h_callM6, ↓h_hit, ↓h_miss, ↓h_sData, ↓h_rds0, ↓h_rds1, ↓h_rdv, ↓h_rds, ↓h_build0, ↓h_build1, ↓h_build2, ↓h_fill0, ↓h_fill1, ↓y_skip, ↓y_seq, ↓y_ops, ↓y_opsC, ↓z_condT, ↓z_condF, ↓z_condAny, setX_t, ↓y_block, ↓y_exit, ↓y_ret, run_nil, run_g0, z_gHit, z_gMiss, z_gTup, z_gAny, ↓x_mov, ↓x_movS, ↓z_pickT, ↓z_pickF, ↓x_pick, ↓x_alloc, ↓x_box, ↓x_build, ↓x_bsl, ↓x_load, ↓x_loadN, ↓x_store, ↓x_storeN, ↓x_bin, ↓x_binB, ↓x_binS, ↓x_binP, ↓x_eqf, ↓x_un, ↓x_conv, ↓x_s2b, ↓x_b2s, ↓x_mks, ↓x_slcA, ↓x_slcS, ↓x_slcStr, ↓x_fldA, ↓x_fld, ↓x_idxA, ↓x_idxS, ↓x_idxV, ↓x_ext, ↓x_len, ↓x_lenS, ↓x_lenA, ↓x_app, ↓x_copy, ↓x_mm, ↓x_nck, ↓x_mark, ↓x_idxStr, ev_t, ev_c, evs, evp, mkB, repB, fill, blen, apS_nil, apS_cons, apN_nil, apN_cons, put_some, put_none, upd_0, upd_s, updB_0, updB_s, nth_0, nth_s, nthB_0, nthB_s, thenQ_n, thenQ_e, thenQ_r, blockQ_n, blockQ_e, blockQ_r, retQ, res, resAll, resOne, kill, apartOk, exp, injV, injB, pur, purs, List.set_cons_zero, List.set_cons_succ, List.length_cons, List.length_nil, List.cons_append, List.nil_append, List.append_nil, List.append_assoc, List.length_append, List.reduceReplicate, Nat.reduceAdd, Nat.reduceMul, Nat.reduceSub, Nat.reduceEqDiff, Nat.reduceLT, Nat.zero_add, Nat.add_zero, Nat.mul_one, Int.reduceToNat, Int.toNat_natCast, Int.reduceLE, Int.reduceLT, Int.reduceEq, reduceCtorEq, ↓reduceIte, Bool.true_eq_false, Bool.false_eq_true, Bool.not_true, Bool.not_false, true_and, and_true, and_assoc, dig_length, sub_own, sub_dig, sub_rep, List.length_replicate, Nat.le_refl, forall_const, false_implies, true_implies, ne_eq, not_true_eq_false, not_false_eq_true, decide_true, decide_false, decide_eq_true_eq, decide_eq_false_iff_not, Bool.not_eq_true', Bool.not_eq_false', implies_true]; rfl) ⟨by simp, by simp, by simp⟩ ?_
  rintro ⟨i, m⟩ ⟨h1, h2, h3⟩ K hK
  simp only [] at h1 h2 h3
  simp only [↓h_bin, ↓h_binB, ↓h_binS, ↓h_binP, ↓h_un, ↓h_content, ↓h_bound, ↓h_part, ↓h_iadd, ↓h_isub, ↓h_imul, ↓h_iquo, ↓h_irem, ↓h_iand, ↓h_ior, ↓h_ixor, ↓h_iandNot, ↓h_ishl, ↓h_ishr, ↓h_ieql, ↓h_ineq, ↓h_ilss, ↓h_ileq, ↓h_igtr, ↓h_igeq, ↓h_call0, ↓h_callM0, ↓h_call1, ↓h_callM1, ↓h_call2, ↓h_callM2, ↓h_call3, ↓h_callM3, ↓h_call4, ↓h_callM4, ↓h_call5, ↓h_callM5, ↓h_call6, ↓h_callM6, ↓h_hit, ↓h_miss, ↓h_sData, ↓h_rds0, ↓h_rds1, ↓h_rdv, ↓h_rds, ↓h_build0, ↓h_build1, ↓h_build2, ↓h_fill0, ↓h_fill1, ↓y_skip, ↓y_seq, ↓y_ops, ↓y_opsC, ↓z_condT, ↓z_condF, ↓z_condAny, setX_t, ↓y_block, ↓y_exit, ↓y_ret, run_nil, run_g0, z_gHit, z_gMiss, z_gTup, z_gAny, ↓x_mov, ↓x_movS, ↓z_pickT, ↓z_pickF, ↓x_pick, ↓x_alloc, ↓x_box, ↓x_build, ↓x_bsl, ↓x_load, ↓x_loadN, ↓x_store, ↓x_storeN, ↓x_bin, ↓x_binB, ↓x_binS, ↓x_binP, ↓x_eqf, ↓x_un, ↓x_conv, ↓x_s2b, ↓x_b2s, ↓x_mks, ↓x_slcA, ↓x_slcS, ↓x_slcStr, ↓x_fldA, ↓x_fld, ↓x_idxA, ↓x_idxS, ↓x_idxV, ↓x_ext, ↓x_len, ↓x_lenS, ↓x_lenA, ↓x_app, ↓x_copy, ↓x_mm, ↓x_nck, ↓x_mark, ↓x_idxStr, ev_t, ev_c, evs, evp, mkB, repB, fill, blen, apS_nil, apS_cons, apN_nil, apN_cons, put_some, put_none, upd_0, upd_s, updB_0, updB_s, nth_0, nth_s, nthB_0, nthB_s, thenQ_n, thenQ_e, thenQ_r, blockQ_n, blockQ_e, blockQ_r, retQ, res, resAll, resOne, kill, apartOk, exp, injV, injB, pur, purs, List.set_cons_zero, List.set_cons_succ, List.length_cons, List.length_nil, List.cons_append, List.nil_append, List.append_nil, List.append_assoc, List.length_append, List.reduceReplicate, Nat.reduceAdd, Nat.reduceMul, Nat.reduceSub, Nat.reduceEqDiff, Nat.reduceLT, Nat.zero_add, Nat.add_zero, Nat.mul_one, Int.reduceToNat, Int.toNat_natCast, Int.reduceLE, Int.reduceLT, Int.reduceEq, reduceCtorEq, ↓reduceIte, Bool.true_eq_false, Bool.false_eq_true, Bool.not_true, Bool.not_false, true_and, and_true, and_assoc, dig_length, sub_own, sub_dig, sub_rep, List.length_replicate, Nat.le_refl, forall_const, false_implies, true_implies, ne_eq, not_true_eq_false, not_false_eq_true, decide_true, decide_false, decide_eq_true_eq, decide_eq_false_iff_not, Bool.not_eq_true', Bool.not_eq_false', implies_true]
  refine ⟨fun hi => ?_, fun hi => ?_⟩
  · try simp only [decide_eq_true_eq] at hi
    have hi : i < 32 := by omega
    have hq : Go.IntKind.i64.wrap ((i : Int).tdiv 4) = ((i / 4 : Nat) : Int) := by rw [wrap_i64, Int.tdiv_eq_ediv_of_nonneg (by omega)]; omega
    have hr : Go.IntKind.i64.wrap ((i : Int).tmod 4 * 8) = ((8 * (i % 4) : Nat) : Int) := by rw [wrap_i64, Int.tmod_eq_emod_of_nonneg (by omega)]; omega
    have hw' : Go.IntKind.i64.wrap ((i : Int) + 1) = ((i + 1 : Nat) : Int) := by rw [wrap_i64]; omega
    have hb := byte_of32 hw (i := i) (N := 32) hi (by omega)
    rw [hq, hr, hw']
    simp only [↓h_bin, ↓h_binB, ↓h_binS, ↓h_binP, ↓h_un, ↓h_content, ↓h_bound, ↓h_part, ↓h_iadd, ↓h_isub, ↓h_imul, ↓h_iquo, ↓h_irem, ↓h_iand, ↓h_ior, ↓h_ixor, ↓h_iandNot, ↓h_ishl, ↓h_ishr, ↓h_ieql, ↓h_ineq, ↓h_ilss, ↓h_ileq, ↓h_igtr, ↓h_igeq, ↓h_call0, ↓h_callM0, ↓h_call1, ↓h_callM1, ↓h_call2, ↓h_callM2, ↓h_call3, ↓h_callM3, ↓h_call4, ↓h_callM4, ↓h_call5, ↓h_callM5, ↓h_call6, ↓h_callM6, ↓h_hit, ↓h_miss, ↓h_sData, ↓h_rds0, ↓h_rds1, ↓h_rdv, ↓h_rds, ↓h_build0, ↓h_build1, ↓h_build2, ↓h_fill0, ↓h_fill1, ↓y_skip, ↓y_seq, ↓y_ops, ↓y_opsC, ↓z_condT, ↓z_condF, ↓z_condAny, setX_t, ↓y_block, ↓y_exit, ↓y_ret, run_nil, run_g0, z_gHit, z_gMiss, z_gTup, z_gAny, ↓x_mov, ↓x_movS, ↓z_pickT, ↓z_pickF, ↓x_pick, ↓x_alloc, ↓x_box, ↓x_build, ↓x_bsl, ↓x_load, ↓x_loadN, ↓x_store, ↓x_storeN, ↓x_bin, ↓x_binB, ↓x_binS, ↓x_binP, ↓x_eqf, ↓x_un, ↓x_conv, ↓x_s2b, ↓x_b2s, ↓x_mks, ↓x_slcA, ↓x_slcS, ↓x_slcStr, ↓x_fldA, ↓x_fld, ↓x_idxA, ↓x_idxS, ↓x_idxV, ↓x_ext, ↓x_len, ↓x_lenS, ↓x_lenA, ↓x_app, ↓x_copy, ↓x_mm, ↓x_nck, ↓x_mark, ↓x_idxStr, ev_t, ev_c, evs, evp, mkB, repB, fill, blen, apS_nil, apS_cons, apN_nil, apN_cons, put_some, put_none, upd_0, upd_s, updB_0, updB_s, nth_0, nth_s, nthB_0, nthB_s, thenQ_n, thenQ_e, thenQ_r, blockQ_n, blockQ_e, blockQ_r, retQ, res, resAll, resOne, kill, apartOk, exp, injV, injB, pur, purs, List.set_cons_zero, List.set_cons_succ, List.length_cons, List.length_nil, List.cons_append, List.nil_append, List.append_nil, List.append_assoc, List.length_append, List.reduceReplicate, Nat.reduceAdd, Nat.reduceMul, Nat.reduceSub, Nat.reduceEqDiff, Nat.reduceLT, Nat.zero_add, Nat.add_zero, Nat.mul_one, Int.reduceToNat, Int.toNat_natCast, Int.reduceLE, Int.reduceLT, Int.reduceEq, reduceCtorEq, ↓reduceIte, Bool.true_eq_false, Bool.false_eq_true, Bool.not_true, Bool.not_false, true_and, and_true, and_assoc, dig_length, sub_own, sub_dig, sub_rep, List.length_replicate, Nat.le_refl, forall_const, false_implies, true_implies, ne_eq, not_true_eq_false, not_false_eq_true, decide_true, decide_false, decide_eq_true_eq, decide_eq_false_iff_not, Bool.not_eq_true', Bool.not_eq_false', implies_true]
    have hs : Go.IntKind.u8.wrap (iShr .u32 (getI n (i / 4)) ((8 * (i % 4) : Nat) : Int)) = getI (dig 256 32 (val 4294967296 n)) i := by
      rw [hb, wrap_u8, iShr_eq, Int.toNat_natCast, Nat.min_eq_left (by simp only [Go.IntKind.bits]; omega)]
    rw [hs]
    repeat (refine And.intro (by first | omega | rfl) ?_)
    refine ⟨(i + 1, m.set i _), hK _ (⟨by simp only []; omega, by simpa using h2, fun j hj => ?_⟩) (by simp only []; omega), rfl⟩
    rw [getI_set _ _ _ _ (by omega)]
    split
    · rename_i h; rw [h]
    · exact h3 j (by simp only [] at hj; omega)
  · try simp only [decide_eq_false_iff_not] at hi
    have hm : m = dig 256 32 (val 4294967296 n) := getI_ext (by rw [h2, dig_length]) fun j hj => h3 j (by omega)
    simp only [sub_zero, spl_all, dig_length, List.length_cons, List.length_nil, Nat.reduceAdd, Nat.le_refl, Nat.reduceLeDiff, Nat.reduceLT, true_and, and_true, h2, List.length_replicate]
    exact out_ints hm
end Am
set_option linter.unusedSimpArgs false
set_option linter.unusedVariables false
set_option maxRecDepth 20000
namespace Am
open Go.Proofs
/-- A bit of a number of bytes. -/
theorem bit_of8 {b : List Int} (hw : Dig 256 b) {i : Nat} (hq : i / 8 < b.length) : getI b (i / 8) / 2 ^ (i % 8) % 2 = val 256 b / 2 ^ i % 2 := by
  have hn : getI b (i / 8) = val 256 b / 256 ^ (i / 8) % 256 := by
    have := getI_dig (B := 256) (by decide) (x := val 256 b) hq
    rwa [dig_val (by decide) hw] at this
  rw [hn]
  have e : (2 : Int) ^ i = 256 ^ (i / 8) * 2 ^ (i % 8) := by
    conv => lhs; rw [← Nat.div_add_mod i 8, Int.pow_add, Int.pow_mul]
    rfl
  rw [e, ← Int.ediv_ediv_of_nonneg (Int.le_of_lt (Int.pow_pos (by decide)))]
  generalize val 256 b / 256 ^ (i / 8) = y
  have hr : i % 8 < 8 := Nat.mod_lt _ (by decide)
  generalize i % 8 = r at hr
  rcases (by omega : r = 0 ∨ r = 1 ∨ r = 2 ∨ r = 3 ∨ r = 4 ∨ r = 5 ∨ r = 6 ∨ r = 7) with rfl | rfl | rfl | rfl | rfl | rfl | rfl | rfl <;> simp <;> omega
/-- A bit more. -/
theorem half_step (x : Int) (i : Nat) : x / 2 ^ i = 2 * (x / 2 ^ (i + 1)) + x / 2 ^ i % 2 := by
  rw [Int.pow_succ, ← Int.ediv_ediv_of_nonneg (Int.le_of_lt (Int.pow_pos (by decide)))]
  omega
theorem mod_twice (y bit : Int) : (2 * (y % Lo) + bit) % Lo = (2 * y + bit) % Lo := by
  rw [Int.add_emod, Int.mul_emod, Int.emod_emod_of_dvd _ (Int.dvd_refl _), ← Int.mul_emod, ← Int.add_emod]
theorem mod_Lo (y : Int) : 0 ≤ y % Lo ∧ y % Lo < Lo := ⟨Int.emod_nonneg _ (by have := Lo_pos; omega), Int.emod_lt_of_pos _ Lo_pos⟩
theorem val_dig9 (y : Int) : val 4294967296 (dig 4294967296 9 (y % Lo)) = y % Lo := by
  have := mod_Lo y
  have h2 : Lo < 4294967296 ^ 9 := by decide
  exact val_dig (by decide) this.1 (by omega)
/-- A bit, as the code reads it. -/
theorem bit_code {b : List Int} (hw : Dig 256 b) {i : Nat} (hq : i / 8 < b.length) : bAnd .u8 (iShr .u8 (getI b (i / 8)) ((i % 8 : Nat) : Int)) 1 = val 256 b / 2 ^ i % 2 := by
  have hd := hw.get hq
  have h2 : (0 : Int) < 2 ^ (i % 8) := Int.pow_pos (by decide)
  rw [iShr_eq, Int.toNat_natCast, Nat.min_eq_left (by simp only [Go.IntKind.bits]; omega)]
  have h3 : getI b (i / 8) / 2 ^ (i % 8) < 256 := Int.lt_of_le_of_lt (Int.ediv_le_self _ hd.1) hd.2
  have := bAnd_mask .u8 1 (getI b (i / 8) / 2 ^ (i % 8)) (Int.ediv_nonneg hd.1 (by omega)) (by simpa [Go.IntKind.bits] using h3) (by decide) rfl
  rw [← bit_of8 hw hq]
  simpa using this
def pre24 (ds : List D) : Prop := ∃ b, ds = [.s .u8 b] ∧ Dig 256 b ∧ b.length ≤ 140737488355328
def F24 : List D → Out
  | [.s _ b] => .one (.v (.ints .u32 (dig 4294967296 9 (val 256 b % Lo))))
  | _ => bad
def s24 : Summ := sData [.s .u8] pre24 F24
theorem ok24 : SumOK Tryd.prog gl 24 s24 ∧ SumAbs s24 := by
  refine fsum (l := [(28, s28)]) mixed gl_plain rfl Tryd.func24 comp24 compR24 nt24 (by simp only [List.mem_cons, List.not_mem_nil, or_false, forall_eq]; exact ok28) fun ds ⟨b, hd, hw, hlen⟩ hA => ?_
  subst hd
  simp only [s28]
  simp only [ir24, rs24, gl, F24, s28, F28, ↓h_bin, ↓h_binB, ↓h_binS, ↓h_binP, ↓h_un, ↓h_content, ↓h_bound, ↓h_part, ↓h_iadd, ↓h_isub, ↓h_imul, ↓h_iquo, ↓h_irem, ↓h_iand, ↓h_ior, ↓h_ixor, ↓h_iandNot, ↓h_ishl, ↓h_ishr, ↓h_ieql, ↓h_ineq, ↓h_ilss, ↓h_ileq, ↓h_igtr, ↓h_igeq, ↓h_call0, ↓h_callM0, ↓h_call1, ↓h_callM1, ↓h_call2, ↓h_callM2, ↓h_call3, ↓h_callM3, ↓h_call4, ↓h_callM4, ↓h_call5, ↓h_callM5, ↓h_call6, ↓h_callM6, ↓h_hit, ↓h_miss, ↓h_sData, ↓h_rds0, ↓h_rds1, ↓h_rdv, ↓h_rds, ↓h_build0, ↓h_build1, ↓h_build2, ↓h_fill0, ↓h_fill1, ↓y_skip, ↓y_seq, ↓y_ops, ↓y_opsC, ↓z_condT, ↓z_condF, ↓z_condAny, setX_t, ↓y_block, ↓y_exit, ↓y_ret, run_nil, run_g0, z_gHit, z_gMiss, z_gTup, z_gAny, ↓x_mov, ↓x_movS, ↓z_pickT, ↓z_pickF, ↓x_pick, ↓x_alloc, ↓x_box, ↓x_build, ↓x_bsl, ↓x_load, ↓x_loadN, ↓x_store, ↓x_storeN, ↓x_bin, ↓x_binB, ↓x_binS, ↓x_binP, ↓x_eqf, ↓x_un, ↓x_conv, ↓x_s2b, ↓x_b2s, ↓x_mks, ↓x_slcA, ↓x_slcS, ↓x_slcStr, ↓x_fldA, ↓x_fld, ↓x_idxA, ↓x_idxS, ↓x_idxV, ↓x_ext, ↓x_len, ↓x_lenS, ↓x_lenA, ↓x_app, ↓x_copy, ↓x_mm, ↓x_nck, ↓x_mark, ↓x_idxStr, ev_t, ev_c, evs, evp, mkB, repB, fill, blen, apS_nil, apS_cons, apN_nil, apN_cons, put_some, put_none, upd_0, upd_s, updB_0, updB_s, nth_0, nth_s, nthB_0, nthB_s, thenQ_n, thenQ_e, thenQ_r, blockQ_n, blockQ_e, blockQ_r, retQ, res, resAll, resOne, kill, apartOk, exp, injV, injB, pur, purs, List.set_cons_zero, List.set_cons_succ, List.length_cons, List.length_nil, List.cons_append, List.nil_append, List.append_nil, List.append_assoc, List.length_append, List.reduceReplicate, Nat.reduceAdd, Nat.reduceMul, Nat.reduceSub, Nat.reduceEqDiff, Nat.reduceLT, Nat.zero_add, Nat.add_zero, Nat.mul_one, Int.reduceToNat, Int.toNat_natCast, Int.reduceLE, Int.reduceLT, Int.reduceEq, reduceCtorEq, ↓reduceIte, Bool.true_eq_false, Bool.false_eq_true, Bool.not_true, Bool.not_false, true_and, and_true, and_assoc, dig_length, sub_own, sub_dig, sub_rep, List.length_replicate, Nat.le_refl, forall_const, false_implies, true_implies, ne_eq, not_true_eq_false, not_false_eq_true, decide_true, decide_false, decide_eq_true_eq, decide_eq_false_iff_not, Bool.not_eq_true', Bool.not_eq_false', implies_true]
  have hbd := val_bound (by decide : (0 : Int) < 256) hw
  have hi0 : Go.IntKind.i64.wrap (Go.IntKind.i64.wrap ((b.length : Int) * 8) - 1) = (8 * b.length : Nat) - 1 := by rw [wrap_i64, wrap_i64]; omega
  rw [hi0]
  refine awp_loopK hA (fun k : Nat => ⟨[.slice 4 0 1 b.length b.length, .undef, .ptr 5 0, .ptr 6 0, .int .i64 (k - 1)] ++ List.replicate 21 .undef, [.ints true .u32 ord, .dead, .dead, .dead, .ints true .u8 b, .ints false .u32 [0, 0, 0, 0, 0, 0, 0, 0, 0], .ints false .u32 (dig 4294967296 9 ((val 256 b / 2 ^ k) % Lo))]⟩)
    (fun k => k ≤ 8 * b.length) (fun k => k) (8 * b.length) (by
      have e : val 256 b / 2 ^ (8 * b.length) = 0 := by
        rw [Int.pow_mul]; exact Int.ediv_eq_zero_of_lt hbd.1 hbd.2
      simp only [e, ↓h_bin, ↓h_binB, ↓h_binS, ↓h_binP, ↓h_un, ↓h_content, ↓h_bound, ↓h_part, ↓h_iadd, ↓h_isub, ↓h_imul, ↓h_iquo, ↓h_irem, ↓h_iand, ↓h_ior, ↓h_ixor, ↓h_iandNot, ↓h_ishl, ↓h_ishr, ↓h_ieql, ↓h_ineq, ↓h_ilss, ↓h_ileq, ↓h_igtr, ↓h_igeq, ↓h_call0, ↓h_callM0, ↓h_call1, ↓h_callM1, ↓h_call2, ↓h_callM2, ↓h_call3, ↓h_callM3, ↓h_call4, ↓h_callM4, ↓h_call5, ↓h_callM5, ↓h_call6, ↓h_callM6, ↓h_hit, ↓h_miss, ↓h_sData, ↓h_rds0, ↓h_rds1, ↓h_rdv, ↓h_rds, ↓h_build0, ↓h_build1, ↓h_build2, ↓h_fill0, ↓h_fill1, ↓y_skip, ↓y_seq, ↓y_ops, ↓y_opsC, ↓z_condT, ↓z_condF, ↓z_condAny, setX_t, ↓y_block, ↓y_exit, ↓y_ret, run_nil, run_g0, z_gHit, z_gMiss, z_gTup, z_gAny, ↓x_mov, ↓x_movS, ↓z_pickT, ↓z_pickF, ↓x_pick, ↓x_alloc, ↓x_box, ↓x_build, ↓x_bsl, ↓x_load, ↓x_loadN, ↓x_store, ↓x_storeN, ↓x_bin, ↓x_binB, ↓x_binS, ↓x_binP, ↓x_eqf, ↓x_un, ↓x_conv, ↓x_s2b, ↓x_b2s, ↓x_mks, ↓x_slcA, ↓x_slcS, ↓x_slcStr, ↓x_fldA, ↓x_fld, ↓x_idxA, ↓x_idxS, ↓x_idxV, ↓x_ext, ↓x_len, ↓x_lenS, ↓x_lenA, ↓x_app, ↓x_copy, ↓x_mm, ↓x_nck, ↓x_mark, ↓x_idxStr, ev_t, ev_c, evs, evp, mkB, repB, fill, blen, apS_nil, apS_cons, apN_nil, apN_cons, put_some, put_none, upd_0, upd_s, updB_0, updB_s, nth_0, nth_s, nthB_0, nthB_s, thenQ_n, thenQ_e, thenQ_r, blockQ_n, blockQ_e, blockQ_r, retQ, res, resAll, resOne, kill, apartOk, exp, injV, injB, pur, purs, List.set_cons_zero, List.set_cons_succ, List.length_cons, List.length_nil, List.cons_append, List.nil_append, List.append_nil, List.append_assoc, List.length_append, List.reduceReplicate, Nat.reduceAdd, Nat.reduceMul, Nat.reduceSub, Nat.reduceEqDiff, Nat.reduceLT, Nat.zero_add, Nat.add_zero, Nat.mul_one, Int.reduceToNat, Int.toNat_natCast, Int.reduceLE, Int.reduceLT, Int.reduceEq, reduceCtorEq, ↓reduceIte, Bool.true_eq_false, Bool.false_eq_true, Bool.not_true, Bool.not_false, true_and, and_true, and_assoc, dig_length, sub_own, sub_dig, sub_rep, List.length_replicate, Nat.le_refl, forall_const, false_implies, true_implies, ne_eq, not_true_eq_false, not_false_eq_true, decide_true, decide_false, decide_eq_true_eq, decide_eq_false_iff_not, Bool.not_eq_true', Bool.not_eq_false', implies_true]; rfl) (Nat.le_refl _) ?_
  intro k hk K hK
  simp only [s28, F28, ↓h_bin, ↓h_binB, ↓h_binS, ↓h_binP, ↓h_un, ↓h_content, ↓h_bound, ↓h_part, ↓h_iadd, ↓h_isub, ↓h_imul, ↓h_iquo, ↓h_irem, ↓h_iand, ↓h_ior, ↓h_ixor, ↓h_iandNot, ↓h_ishl, ↓h_ishr, ↓h_ieql, ↓h_ineq, ↓h_ilss, ↓h_ileq, ↓h_igtr, ↓h_igeq, ↓h_call0, ↓h_callM0, ↓h_call1, ↓h_callM1, ↓h_call2, ↓h_callM2, ↓h_call3, ↓h_callM3, ↓h_call4, ↓h_callM4, ↓h_call5, ↓h_callM5, ↓h_call6, ↓h_callM6, ↓h_hit, ↓h_miss, ↓h_sData, ↓h_rds0, ↓h_rds1, ↓h_rdv, ↓h_rds, ↓h_build0, ↓h_build1, ↓h_build2, ↓h_fill0, ↓h_fill1, ↓y_skip, ↓y_seq, ↓y_ops, ↓y_opsC, ↓z_condT, ↓z_condF, ↓z_condAny, setX_t, ↓y_block, ↓y_exit, ↓y_ret, run_nil, run_g0, z_gHit, z_gMiss, z_gTup, z_gAny, ↓x_mov, ↓x_movS, ↓z_pickT, ↓z_pickF, ↓x_pick, ↓x_alloc, ↓x_box, ↓x_build, ↓x_bsl, ↓x_load, ↓x_loadN, ↓x_store, ↓x_storeN, ↓x_bin, ↓x_binB, ↓x_binS, ↓x_binP, ↓x_eqf, ↓x_un, ↓x_conv, ↓x_s2b, ↓x_b2s, ↓x_mks, ↓x_slcA, ↓x_slcS, ↓x_slcStr, ↓x_fldA, ↓x_fld, ↓x_idxA, ↓x_idxS, ↓x_idxV, ↓x_ext, ↓x_len, ↓x_lenS, ↓x_lenA, ↓x_app, ↓x_copy, ↓x_mm, ↓x_nck, ↓x_mark, ↓x_idxStr, ev_t, ev_c, evs, evp, mkB, repB, fill, blen, apS_nil, apS_cons, apN_nil, apN_cons, put_some, put_none, upd_0, upd_s, updB_0, updB_s, nth_0, nth_s, nthB_0, nthB_s, thenQ_n, thenQ_e, thenQ_r, blockQ_n, blockQ_e, blockQ_r, retQ, res, resAll, resOne, kill, apartOk, exp, injV, injB, pur, purs, List.set_cons_zero, List.set_cons_succ, List.length_cons, List.length_nil, List.cons_append, List.nil_append, List.append_nil, List.append_assoc, List.length_append, List.reduceReplicate, Nat.reduceAdd, Nat.reduceMul, Nat.reduceSub, Nat.reduceEqDiff, Nat.reduceLT, Nat.zero_add, Nat.add_zero, Nat.mul_one, Int.reduceToNat, Int.toNat_natCast, Int.reduceLE, Int.reduceLT, Int.reduceEq, reduceCtorEq, ↓reduceIte, Bool.true_eq_false, Bool.false_eq_true, Bool.not_true, Bool.not_false, true_and, and_true, and_assoc, dig_length, sub_own, sub_dig, sub_rep, List.length_replicate, Nat.le_refl, forall_const, false_implies, true_implies, ne_eq, not_true_eq_false, not_false_eq_true, decide_true, decide_false, decide_eq_true_eq, decide_eq_false_iff_not, Bool.not_eq_true', Bool.not_eq_false', implies_true]
  refine ⟨fun hi => ?_, fun hi => ?_⟩
  · try simp only [decide_eq_true_eq] at hi
    obtain ⟨i, rfl⟩ : ∃ i, k = i + 1 := ⟨k - 1, by omega⟩
    have e1 : (((i + 1 : Nat) : Int) - 1) = (i : Int) := by omega
    have hq : Go.IntKind.i64.wrap ((i : Int).tdiv 8) = ((i / 8 : Nat) : Int) := by rw [wrap_i64, Int.tdiv_eq_ediv_of_nonneg (by omega)]; omega
    have hr : (i : Int).tmod 8 = ((i % 8 : Nat) : Int) := by rw [Int.tmod_eq_emod_of_nonneg (by omega)]; omega
    have hw' : Go.IntKind.i64.wrap ((i : Int) - 1) = (i : Int) - 1 := by rw [wrap_i64]; omega
    have hbit := bit_code hw (i := i) (by omega)
    rw [e1, hq, hr, hw']
    simp only [↓h_bin, ↓h_binB, ↓h_binS, ↓h_binP, ↓h_un, ↓h_content, ↓h_bound, ↓h_part, ↓h_iadd, ↓h_isub, ↓h_imul, ↓h_iquo, ↓h_irem, ↓h_iand, ↓h_ior, ↓h_ixor, ↓h_iandNot, ↓h_ishl, ↓h_ishr, ↓h_ieql, ↓h_ineq, ↓h_ilss, ↓h_ileq, ↓h_igtr, ↓h_igeq, ↓h_call0, ↓h_callM0, ↓h_call1, ↓h_callM1, ↓h_call2, ↓h_callM2, ↓h_call3, ↓h_callM3, ↓h_call4, ↓h_callM4, ↓h_call5, ↓h_callM5, ↓h_call6, ↓h_callM6, ↓h_hit, ↓h_miss, ↓h_sData, ↓h_rds0, ↓h_rds1, ↓h_rdv, ↓h_rds, ↓h_build0, ↓h_build1, ↓h_build2, ↓h_fill0, ↓h_fill1, ↓y_skip, ↓y_seq, ↓y_ops, ↓y_opsC, ↓z_condT, ↓z_condF, ↓z_condAny, setX_t, ↓y_block, ↓y_exit, ↓y_ret, run_nil, run_g0, z_gHit, z_gMiss, z_gTup, z_gAny, ↓x_mov, ↓x_movS, ↓z_pickT, ↓z_pickF, ↓x_pick, ↓x_alloc, ↓x_box, ↓x_build, ↓x_bsl, ↓x_load, ↓x_loadN, ↓x_store, ↓x_storeN, ↓x_bin, ↓x_binB, ↓x_binS, ↓x_binP, ↓x_eqf, ↓x_un, ↓x_conv, ↓x_s2b, ↓x_b2s, ↓x_mks, ↓x_slcA, ↓x_slcS, ↓x_slcStr, ↓x_fldA, ↓x_fld, ↓x_idxA, ↓x_idxS, ↓x_idxV, ↓x_ext, ↓x_len, ↓x_lenS, ↓x_lenA, ↓x_app, ↓x_copy, ↓x_mm, ↓x_nck, ↓x_mark, ↓x_idxStr, ev_t, ev_c, evs, evp, mkB, repB, fill, blen, apS_nil, apS_cons, apN_nil, apN_cons, put_some, put_none, upd_0, upd_s, updB_0, updB_s, nth_0, nth_s, nthB_0, nthB_s, thenQ_n, thenQ_e, thenQ_r, blockQ_n, blockQ_e, blockQ_r, retQ, res, resAll, resOne, kill, apartOk, exp, injV, injB, pur, purs, List.set_cons_zero, List.set_cons_succ, List.length_cons, List.length_nil, List.cons_append, List.nil_append, List.append_nil, List.append_assoc, List.length_append, List.reduceReplicate, Nat.reduceAdd, Nat.reduceMul, Nat.reduceSub, Nat.reduceEqDiff, Nat.reduceLT, Nat.zero_add, Nat.add_zero, Nat.mul_one, Int.reduceToNat, Int.toNat_natCast, Int.reduceLE, Int.reduceLT, Int.reduceEq, reduceCtorEq, ↓reduceIte, Bool.true_eq_false, Bool.false_eq_true, Bool.not_true, Bool.not_false, true_and, and_true, and_assoc, dig_length, sub_own, sub_dig, sub_rep, List.length_replicate, Nat.le_refl, forall_const, false_implies, true_implies, ne_eq, not_true_eq_false, not_false_eq_true, decide_true, decide_false, decide_eq_true_eq, decide_eq_false_iff_not, Bool.not_eq_true', Bool.not_eq_false', implies_true]
    have hcv : Go.IntKind.u32.wrap (bAnd .u8 (iShr .u8 (getI b (i / 8)) ((i % 8 : Nat) : Int)) 1) = val 256 b / 2 ^ i % 2 := by rw [hbit, wrap_u32]; omega
    rw [hcv]
    have hm := mod_Lo (val 256 b / 2 ^ (i + 1))
    simp only [sub_zero, spl_all, dig_length, List.length_cons, List.length_nil, Nat.reduceAdd, Nat.le_refl, Nat.reduceLeDiff, Nat.reduceLT, true_and, and_true, val_dig9, mod_twice, ← half_step]
    have hm2 := val_dig9 (val 256 b / 2 ^ (i + 1))
    repeat (refine And.intro (by first | omega | rfl) ?_)
    exact ⟨⟨_, _, rfl, dig_length _ _ _, dig_dig (by decide) _ _, by rw [hm2]; exact hm.2, by omega, by omega⟩, i, hK _ (by omega) (by omega), rfl⟩
  · try simp only [decide_eq_false_iff_not] at hi
    have hk0 : k = 0 := by omega
    subst hk0
    simp only [sub_zero, spl_all, dig_length, List.length_cons, List.length_nil, Nat.reduceAdd, Nat.le_refl, Nat.reduceLeDiff, Nat.reduceLT, true_and, and_true, Int.pow_zero, Int.ediv_one]
    exact out_ints rfl
end Am
set_option linter.unusedSimpArgs false
set_option linter.unusedVariables false
set_option maxRecDepth 20000
namespace Am
open Go.Proofs
def pre10 (ds : List D) : Prop := ∃ b, ds = [.s .u8 b] ∧ Dig 256 b ∧ b.length ≤ 140737488355328
def F10 : List D → Out
  | [.s _ b] => .one (.v (.ints .u8 (red b)))
  | _ => bad
def s10 : Summ := sData [.s .u8] pre10 F10
theorem ok10 : SumOK Tryd.prog gl 10 s10 ∧ SumAbs s10 := by
  refine fsum (l := [(24, s24), (25, s25)]) mixed gl_plain rfl Tryd.func10 comp10 compR10 nt10 (by simp only [List.mem_cons, List.not_mem_nil, or_false, forall_eq_or_imp, forall_eq]; exact ⟨ok24, ok25⟩) fun ds ⟨b, hd, hw, hlen⟩ hA => ?_
  subst hd
  simp only [s24, s25]
  simp only [ir10, rs10, gl, F10, s24, s25, F24, F25, ↓h_bin, ↓h_binB, ↓h_binS, ↓h_binP, ↓h_un, ↓h_content, ↓h_bound, ↓h_part, ↓h_iadd, ↓h_isub, ↓h_imul, ↓h_iquo, ↓h_irem, ↓h_iand, ↓h_ior, ↓h_ixor, ↓h_iandNot, ↓h_ishl, ↓h_ishr, ↓h_ieql, ↓h_ineq, ↓h_ilss, ↓h_ileq, ↓h_igtr, ↓h_igeq, ↓h_call0, ↓h_callM0, ↓h_call1, ↓h_callM1, ↓h_call2, ↓h_callM2, ↓h_call3, ↓h_callM3, ↓h_call4, ↓h_callM4, ↓h_call5, ↓h_callM5, ↓h_call6, ↓h_callM6, ↓h_hit, ↓h_miss, ↓h_sData, ↓h_rds0, ↓h_rds1, ↓h_rdv, ↓h_rds, ↓h_build0, ↓h_build1, ↓h_build2, ↓h_fill0, ↓h_fill1, ↓y_skip, ↓y_seq, ↓y_ops, ↓y_opsC, ↓z_condT, ↓z_condF, ↓z_condAny, setX_t, ↓y_block, ↓y_exit, ↓y_ret, run_nil, run_g0, z_gHit, z_gMiss, z_gTup, z_gAny, ↓x_mov, ↓x_movS, ↓z_pickT, ↓z_pickF, ↓x_pick, ↓x_alloc, ↓x_box, ↓x_build, ↓x_bsl, ↓x_load, ↓x_loadN, ↓x_store, ↓x_storeN, ↓x_bin, ↓x_binB, ↓x_binS, ↓x_binP, ↓x_eqf, ↓x_un, ↓x_conv, ↓x_s2b, ↓x_b2s, ↓x_mks, ↓x_slcA, ↓x_slcS, ↓x_slcStr, ↓x_fldA, ↓x_fld, ↓x_idxA, ↓x_idxS, ↓x_idxV, ↓x_ext, ↓x_len, ↓x_lenS, ↓x_lenA, ↓x_app, ↓x_copy, ↓x_mm, ↓x_nck, ↓x_mark, ↓x_idxStr, ev_t, ev_c, evs, evp, mkB, repB, fill, blen, apS_nil, apS_cons, apN_nil, apN_cons, put_some, put_none, upd_0, upd_s, updB_0, updB_s, nth_0, nth_s, nthB_0, nthB_s, thenQ_n, thenQ_e, thenQ_r, blockQ_n, blockQ_e, blockQ_r, retQ, res, resAll, resOne, kill, apartOk, exp, injV, injB, pur, purs, List.set_cons_zero, List.set_cons_succ, List.length_cons, List.length_nil, List.cons_append, List.nil_append, List.append_nil, List.append_assoc, List.length_append, List.reduceReplicate, Nat.reduceAdd, Nat.reduceMul, Nat.reduceSub, Nat.reduceEqDiff, Nat.reduceLT, Nat.zero_add, Nat.add_zero, Nat.mul_one, Int.reduceToNat, Int.toNat_natCast, Int.reduceLE, Int.reduceLT, Int.reduceEq, reduceCtorEq, ↓reduceIte, Bool.true_eq_false, Bool.false_eq_true, Bool.not_true, Bool.not_false, true_and, and_true, and_assoc, dig_length, sub_own, sub_dig, sub_rep, List.length_replicate, Nat.le_refl, forall_const, false_implies, true_implies, ne_eq, not_true_eq_false, not_false_eq_true, decide_true, decide_false, decide_eq_true_eq, decide_eq_false_iff_not, Bool.not_eq_true', Bool.not_eq_false', implies_true]
  have hs : sub b 0 b.length = b := sub_zero rfl
  try simp only [hs, sub_zero, spl_all, dig_length, List.length_cons, List.length_nil, Nat.reduceAdd, Nat.le_refl, Nat.reduceLeDiff, Nat.reduceLT, true_and, and_true]
  refine ⟨⟨b, rfl, hw, hlen⟩, ⟨_, rfl, dig_length _ _ _, dig_dig (by decide) _ _⟩, ?_⟩
  exact out_ints (by rw [val_dig9]; rfl)

def pre12 (ds : List D) : Prop := ∃ k, ds = [.v (.ints .u8 k)] ∧ k.length = 32 ∧ Dig 256 k
def F12 : List D → Out
  | [.v (.ints _ k)] => .one (.v (.bool (decide (red k = k))))
  | _ => bad
def s12 : Summ := sData [.v] pre12 F12
theorem ok12 : SumOK Tryd.prog gl 12 s12 ∧ SumAbs s12 := by
  refine fsum (l := [(10, s10)]) mixed gl_plain rfl Tryd.func12 comp12 compR12 nt12 (by simp only [List.mem_cons, List.not_mem_nil, or_false, forall_eq]; exact ok10) fun ds ⟨k, hd, hk, hw⟩ hA => ?_
  subst hd
  simp only [s10]
  simp only [ir12, rs12, gl, F12, s10, F10, ↓h_bin, ↓h_binB, ↓h_binS, ↓h_binP, ↓h_un, ↓h_content, ↓h_bound, ↓h_part, ↓h_iadd, ↓h_isub, ↓h_imul, ↓h_iquo, ↓h_irem, ↓h_iand, ↓h_ior, ↓h_ixor, ↓h_iandNot, ↓h_ishl, ↓h_ishr, ↓h_ieql, ↓h_ineq, ↓h_ilss, ↓h_ileq, ↓h_igtr, ↓h_igeq, ↓h_call0, ↓h_callM0, ↓h_call1, ↓h_callM1, ↓h_call2, ↓h_callM2, ↓h_call3, ↓h_callM3, ↓h_call4, ↓h_callM4, ↓h_call5, ↓h_callM5, ↓h_call6, ↓h_callM6, ↓h_hit, ↓h_miss, ↓h_sData, ↓h_rds0, ↓h_rds1, ↓h_rdv, ↓h_rds, ↓h_build0, ↓h_build1, ↓h_build2, ↓h_fill0, ↓h_fill1, ↓y_skip, ↓y_seq, ↓y_ops, ↓y_opsC, ↓z_condT, ↓z_condF, ↓z_condAny, setX_t, ↓y_block, ↓y_exit, ↓y_ret, run_nil, run_g0, z_gHit, z_gMiss, z_gTup, z_gAny, ↓x_mov, ↓x_movS, ↓z_pickT, ↓z_pickF, ↓x_pick, ↓x_alloc, ↓x_box, ↓x_build, ↓x_bsl, ↓x_load, ↓x_loadN, ↓x_store, ↓x_storeN, ↓x_bin, ↓x_binB, ↓x_binS, ↓x_binP, ↓x_eqf, ↓x_un, ↓x_conv, ↓x_s2b, ↓x_b2s, ↓x_mks, ↓x_slcA, ↓x_slcS, ↓x_slcStr, ↓x_fldA, ↓x_fld, ↓x_idxA, ↓x_idxS, ↓x_idxV, ↓x_ext, ↓x_len, ↓x_lenS, ↓x_lenA, ↓x_app, ↓x_copy, ↓x_mm, ↓x_nck, ↓x_mark, ↓x_idxStr, ev_t, ev_c, evs, evp, mkB, repB, fill, blen, apS_nil, apS_cons, apN_nil, apN_cons, put_some, put_none, upd_0, upd_s, updB_0, updB_s, nth_0, nth_s, nthB_0, nthB_s, thenQ_n, thenQ_e, thenQ_r, blockQ_n, blockQ_e, blockQ_r, retQ, res, resAll, resOne, kill, apartOk, exp, injV, injB, pur, purs, List.set_cons_zero, List.set_cons_succ, List.length_cons, List.length_nil, List.cons_append, List.nil_append, List.append_nil, List.append_assoc, List.length_append, List.reduceReplicate, Nat.reduceAdd, Nat.reduceMul, Nat.reduceSub, Nat.reduceEqDiff, Nat.reduceLT, Nat.zero_add, Nat.add_zero, Nat.mul_one, Int.reduceToNat, Int.toNat_natCast, Int.reduceLE, Int.reduceLT, Int.reduceEq, reduceCtorEq, ↓reduceIte, Bool.true_eq_false, Bool.false_eq_true, Bool.not_true, Bool.not_false, true_and, and_true, and_assoc, dig_length, sub_own, sub_dig, sub_rep, List.length_replicate, Nat.le_refl, forall_const, false_implies, true_implies, ne_eq, not_true_eq_false, not_false_eq_true, decide_true, decide_false, decide_eq_true_eq, decide_eq_false_iff_not, Bool.not_eq_true', Bool.not_eq_false', implies_true]
  have hr : (red k).length = 32 := dig_length _ _ _
  simp only [sub_zero, spl_all, dig_length, List.length_cons, List.length_nil, Nat.reduceAdd, Nat.le_refl, Nat.reduceLeDiff, Nat.reduceLT, true_and, and_true, hk, hr]
  exact ⟨⟨k, rfl, hw, by omega⟩, out_bool rfl⟩

def pre22 (ds : List D) : Prop := ∃ a b c, ds = [.v (.ints .u8 a), .v (.ints .u8 b), .v (.ints .u8 c)] ∧ Key a ∧ Key b ∧ Key c
def F22 : List D → Out
  | [.v (.ints _ a), .v (.ints _ b), .v (.ints _ c)] => .one (.v (.ints .u8 (muladd a b c)))
  | _ => bad
def s22 : Summ := sData [.v, .v, .v] pre22 F22
theorem mod_add (x y : Int) : (x % Lo + y % Lo) % Lo = (x + y) % Lo := (Int.add_emod x y Lo).symm
theorem ok22 : SumOK Tryd.prog gl 22 s22 ∧ SumAbs s22 := by
  refine fsum (l := [(24, s24), (25, s25), (28, s28), (29, s29)]) mixed gl_plain rfl Tryd.func22 comp22 compR22 nt22 (by simp only [List.mem_cons, List.not_mem_nil, or_false, forall_eq_or_imp, forall_eq]; exact ⟨ok24, ok25, ok28, ok29⟩) fun ds ⟨a, b, c, hd, ⟨ha, haw⟩, ⟨hb, hbw⟩, ⟨hc, hcw⟩⟩ hA => ?_
  subst hd
  simp only [s24, s25, s28, s29]
  simp only [ir22, rs22, gl, F22, s24, s25, s28, s29, F24, F25, F28, F29, ↓h_bin, ↓h_binB, ↓h_binS, ↓h_binP, ↓h_un, ↓h_content, ↓h_bound, ↓h_part, ↓h_iadd, ↓h_isub, ↓h_imul, ↓h_iquo, ↓h_irem, ↓h_iand, ↓h_ior, ↓h_ixor, ↓h_iandNot, ↓h_ishl, ↓h_ishr, ↓h_ieql, ↓h_ineq, ↓h_ilss, ↓h_ileq, ↓h_igtr, ↓h_igeq, ↓h_call0, ↓h_callM0, ↓h_call1, ↓h_callM1, ↓h_call2, ↓h_callM2, ↓h_call3, ↓h_callM3, ↓h_call4, ↓h_callM4, ↓h_call5, ↓h_callM5, ↓h_call6, ↓h_callM6, ↓h_hit, ↓h_miss, ↓h_sData, ↓h_rds0, ↓h_rds1, ↓h_rdv, ↓h_rds, ↓h_build0, ↓h_build1, ↓h_build2, ↓h_fill0, ↓h_fill1, ↓y_skip, ↓y_seq, ↓y_ops, ↓y_opsC, ↓z_condT, ↓z_condF, ↓z_condAny, setX_t, ↓y_block, ↓y_exit, ↓y_ret, run_nil, run_g0, z_gHit, z_gMiss, z_gTup, z_gAny, ↓x_mov, ↓x_movS, ↓z_pickT, ↓z_pickF, ↓x_pick, ↓x_alloc, ↓x_box, ↓x_build, ↓x_bsl, ↓x_load, ↓x_loadN, ↓x_store, ↓x_storeN, ↓x_bin, ↓x_binB, ↓x_binS, ↓x_binP, ↓x_eqf, ↓x_un, ↓x_conv, ↓x_s2b, ↓x_b2s, ↓x_mks, ↓x_slcA, ↓x_slcS, ↓x_slcStr, ↓x_fldA, ↓x_fld, ↓x_idxA, ↓x_idxS, ↓x_idxV, ↓x_ext, ↓x_len, ↓x_lenS, ↓x_lenA, ↓x_app, ↓x_copy, ↓x_mm, ↓x_nck, ↓x_mark, ↓x_idxStr, ev_t, ev_c, evs, evp, mkB, repB, fill, blen, apS_nil, apS_cons, apN_nil, apN_cons, put_some, put_none, upd_0, upd_s, updB_0, updB_s, nth_0, nth_s, nthB_0, nthB_s, thenQ_n, thenQ_e, thenQ_r, blockQ_n, blockQ_e, blockQ_r, retQ, res, resAll, resOne, kill, apartOk, exp, injV, injB, pur, purs, List.set_cons_zero, List.set_cons_succ, List.length_cons, List.length_nil, List.cons_append, List.nil_append, List.append_nil, List.append_assoc, List.length_append, List.reduceReplicate, Nat.reduceAdd, Nat.reduceMul, Nat.reduceSub, Nat.reduceEqDiff, Nat.reduceLT, Nat.zero_add, Nat.add_zero, Nat.mul_one, Int.reduceToNat, Int.toNat_natCast, Int.reduceLE, Int.reduceLT, Int.reduceEq, reduceCtorEq, ↓reduceIte, Bool.true_eq_false, Bool.false_eq_true, Bool.not_true, Bool.not_false, true_and, and_true, and_assoc, dig_length, sub_own, sub_dig, sub_rep, List.length_replicate, Nat.le_refl, forall_const, false_implies, true_implies, ne_eq, not_true_eq_false, not_false_eq_true, decide_true, decide_false, decide_eq_true_eq, decide_eq_false_iff_not, Bool.not_eq_true', Bool.not_eq_false', implies_true]
  simp only [sub_zero, spl_all, dig_length, List.length_cons, List.length_nil, Nat.reduceAdd, Nat.le_refl, Nat.reduceLeDiff, Nat.reduceLT, true_and, and_true, ha, hb, hc]
  have hbb := val_bound (by decide : (0 : Int) < 256) hbw
  refine ⟨⟨a, rfl, haw, by omega⟩, ?_⟩
  refine awp_loopK hA (fun k : Nat => ⟨[.undef, .undef, .undef, .undef, .ptr 5 0, .ptr 6 0, .ptr 7 0, .ptr 8 0, .ptr 9 0, .int .i64 (k - 1)] ++ List.replicate 26 .undef, [.ints true .u32 ord, .dead, .dead, .dead, .ints false .u8 a, .ints false .u8 b, .ints false .u8 c,
      .ints false .u8 (List.replicate 32 0), .ints false .u32 (dig 4294967296 9 (val 256 a % Lo)), .ints false .u32 (dig 4294967296 9 ((val 256 a * (val 256 b / 2 ^ k)) % Lo))]⟩)
    (fun k => k ≤ 256) (fun k => k) 256 (by
      have e : val 256 b / 2 ^ 256 = 0 := Int.ediv_eq_zero_of_lt hbb.1 (by rw [hb] at hbb; have h2 := hbb.2; rwa [show (256 : Int) ^ 32 = 2 ^ 256 by decide] at h2)
      simp only [e, Int.mul_zero, ↓h_bin, ↓h_binB, ↓h_binS, ↓h_binP, ↓h_un, ↓h_content, ↓h_bound, ↓h_part, ↓h_iadd, ↓h_isub, ↓h_imul, ↓h_iquo, ↓h_irem, ↓h_iand, ↓h_ior, ↓h_ixor, ↓h_iandNot, ↓h_ishl, ↓h_ishr, ↓h_ieql, ↓h_ineq, ↓h_ilss, ↓h_ileq, ↓h_igtr, ↓h_igeq, ↓h_call0, ↓h_callM0, ↓h_call1, ↓h_callM1, ↓h_call2, ↓h_callM2, ↓h_call3, ↓h_callM3, ↓h_call4, ↓h_callM4, ↓h_call5, ↓h_callM5, ↓h_call6, ↓h_callM6, ↓h_hit, ↓h_miss, ↓h_sData, ↓h_rds0, ↓h_rds1, ↓h_rdv, ↓h_rds, ↓h_build0, ↓h_build1, ↓h_build2, ↓h_fill0, ↓h_fill1, ↓y_skip, ↓y_seq, ↓y_ops, ↓y_opsC, ↓z_condT, ↓z_condF, ↓z_condAny, setX_t, ↓y_block, ↓y_exit, ↓y_ret, run_nil, run_g0, z_gHit, z_gMiss, z_gTup, z_gAny, ↓x_mov, ↓x_movS, ↓z_pickT, ↓z_pickF, ↓x_pick, ↓x_alloc, ↓x_box, ↓x_build, ↓x_bsl, ↓x_load, ↓x_loadN, ↓x_store, ↓x_storeN, ↓x_bin, ↓x_binB, ↓x_binS, ↓x_binP, ↓x_eqf, ↓x_un, ↓x_conv, ↓x_s2b, ↓x_b2s, ↓x_mks, ↓x_slcA, ↓x_slcS, ↓x_slcStr, ↓x_fldA, ↓x_fld, ↓x_idxA, ↓x_idxS, ↓x_idxV, ↓x_ext, ↓x_len, ↓x_lenS, ↓x_lenA, ↓x_app, ↓x_copy, ↓x_mm, ↓x_nck, ↓x_mark, ↓x_idxStr, ev_t, ev_c, evs, evp, mkB, repB, fill, blen, apS_nil, apS_cons, apN_nil, apN_cons, put_some, put_none, upd_0, upd_s, updB_0, updB_s, nth_0, nth_s, nthB_0, nthB_s, thenQ_n, thenQ_e, thenQ_r, blockQ_n, blockQ_e, blockQ_r, retQ, res, resAll, resOne, kill, apartOk, exp, injV, injB, pur, purs, List.set_cons_zero, List.set_cons_succ, List.length_cons, List.length_nil, List.cons_append, List.nil_append, List.append_nil, List.append_assoc, List.length_append, List.reduceReplicate, Nat.reduceAdd, Nat.reduceMul, Nat.reduceSub, Nat.reduceEqDiff, Nat.reduceLT, Nat.zero_add, Nat.add_zero, Nat.mul_one, Int.reduceToNat, Int.toNat_natCast, Int.reduceLE, Int.reduceLT, Int.reduceEq, reduceCtorEq, ↓reduceIte, Bool.true_eq_false, Bool.false_eq_true, Bool.not_true, Bool.not_false, true_and, and_true, and_assoc, dig_length, sub_own, sub_dig, sub_rep, List.length_replicate, Nat.le_refl, forall_const, false_implies, true_implies, ne_eq, not_true_eq_false, not_false_eq_true, decide_true, decide_false, decide_eq_true_eq, decide_eq_false_iff_not, Bool.not_eq_true', Bool.not_eq_false', implies_true]; rfl) (Nat.le_refl _) ?_
  intro k hk K hK
  simp (maxSteps := 2000000) only [s24, s25, s28, s29, F24, F25, F28, F29, ↓h_bin, ↓h_binB, ↓h_binS, ↓h_binP, ↓h_un, ↓h_content, ↓h_bound, ↓h_part, ↓h_iadd, ↓h_isub, ↓h_imul, ↓h_iquo, ↓h_irem, ↓h_iand, ↓h_ior, ↓h_ixor, ↓h_iandNot, ↓h_ishl, ↓h_ishr, ↓h_ieql, ↓h_ineq, ↓h_ilss, ↓h_ileq, ↓h_igtr, ↓h_igeq, ↓h_call0, ↓h_callM0, ↓h_call1, ↓h_callM1, ↓h_call2, ↓h_callM2, ↓h_call3, ↓h_callM3, ↓h_call4, ↓h_callM4, ↓h_call5, ↓h_callM5, ↓h_call6, ↓h_callM6, ↓h_hit, ↓h_miss, ↓h_sData, ↓h_rds0, ↓h_rds1, ↓h_rdv, ↓h_rds, ↓h_build0, ↓h_build1, ↓h_build2, ↓h_fill0, ↓h_fill1, ↓y_skip, ↓y_seq, ↓y_ops, ↓y_opsC, ↓z_condT, ↓z_condF, ↓z_condAny, setX_t, ↓y_block, ↓y_exit, ↓y_ret, run_nil, run_g0, z_gHit, z_gMiss, z_gTup, z_gAny, ↓x_mov, ↓x_movS, ↓z_pickT, ↓z_pickF, ↓x_pick, ↓x_alloc, ↓x_box, ↓x_build, ↓x_bsl, ↓x_load, ↓x_loadN, ↓x_store, ↓x_storeN, ↓x_bin, ↓x_binB, ↓x_binS, ↓x_binP, ↓x_eqf, ↓x_un, ↓x_conv, ↓x_s2b, ↓x_b2s, ↓x_mks, ↓x_slcA, ↓x_slcS, ↓x_slcStr, ↓x_fldA, ↓x_fld, ↓x_idxA, ↓x_idxS, ↓x_idxV, ↓x_ext, ↓x_len, ↓x_lenS, ↓x_lenA, ↓x_app, ↓x_copy, ↓x_mm, ↓x_nck, ↓x_mark, ↓x_idxStr, ev_t, ev_c, evs, evp, mkB, repB, fill, blen, apS_nil, apS_cons, apN_nil, apN_cons, put_some, put_none, upd_0, upd_s, updB_0, updB_s, nth_0, nth_s, nthB_0, nthB_s, thenQ_n, thenQ_e, thenQ_r, blockQ_n, blockQ_e, blockQ_r, retQ, res, resAll, resOne, kill, apartOk, exp, injV, injB, pur, purs, List.set_cons_zero, List.set_cons_succ, List.length_cons, List.length_nil, List.cons_append, List.nil_append, List.append_nil, List.append_assoc, List.length_append, List.reduceReplicate, Nat.reduceAdd, Nat.reduceMul, Nat.reduceSub, Nat.reduceEqDiff, Nat.reduceLT, Nat.zero_add, Nat.add_zero, Nat.mul_one, Int.reduceToNat, Int.toNat_natCast, Int.reduceLE, Int.reduceLT, Int.reduceEq, reduceCtorEq, ↓reduceIte, Bool.true_eq_false, Bool.false_eq_true, Bool.not_true, Bool.not_false, true_and, and_true, and_assoc, dig_length, sub_own, sub_dig, sub_rep, List.length_replicate, Nat.le_refl, forall_const, false_implies, true_implies, ne_eq, not_true_eq_false, not_false_eq_true, decide_true, decide_false, decide_eq_true_eq, decide_eq_false_iff_not, Bool.not_eq_true', Bool.not_eq_false', implies_true]
  refine ⟨fun hi => ?_, fun hi => ?_⟩
  · try simp only [decide_eq_true_eq] at hi
    obtain ⟨i, rfl⟩ : ∃ i, k = i + 1 := ⟨k - 1, by omega⟩
    have e1 : (((i + 1 : Nat) : Int) - 1) = (i : Int) := by omega
    have hq : Go.IntKind.i64.wrap ((i : Int).tdiv 8) = ((i / 8 : Nat) : Int) := by rw [wrap_i64, Int.tdiv_eq_ediv_of_nonneg (by omega)]; omega
    have hr : (i : Int).tmod 8 = ((i % 8 : Nat) : Int) := by rw [Int.tmod_eq_emod_of_nonneg (by omega)]; omega
    have hw' : Go.IntKind.i64.wrap ((i : Int) - 1) = (i : Int) - 1 := by rw [wrap_i64]; omega
    have hbit := bit_code hbw (i := i) (by omega)
    rw [e1, hq, hr, hw']
    simp only [↓h_bin, ↓h_binB, ↓h_binS, ↓h_binP, ↓h_un, ↓h_content, ↓h_bound, ↓h_part, ↓h_iadd, ↓h_isub, ↓h_imul, ↓h_iquo, ↓h_irem, ↓h_iand, ↓h_ior, ↓h_ixor, ↓h_iandNot, ↓h_ishl, ↓h_ishr, ↓h_ieql, ↓h_ineq, ↓h_ilss, ↓h_ileq, ↓h_igtr, ↓h_igeq, ↓h_call0, ↓h_callM0, ↓h_call1, ↓h_callM1, ↓h_call2, ↓h_callM2, ↓h_call3, ↓h_callM3, ↓h_call4, ↓h_callM4, ↓h_call5, ↓h_callM5, ↓h_call6, ↓h_callM6, ↓h_hit, ↓h_miss, ↓h_sData, ↓h_rds0, ↓h_rds1, ↓h_rdv, ↓h_rds, ↓h_build0, ↓h_build1, ↓h_build2, ↓h_fill0, ↓h_fill1, ↓y_skip, ↓y_seq, ↓y_ops, ↓y_opsC, ↓z_condT, ↓z_condF, ↓z_condAny, setX_t, ↓y_block, ↓y_exit, ↓y_ret, run_nil, run_g0, z_gHit, z_gMiss, z_gTup, z_gAny, ↓x_mov, ↓x_movS, ↓z_pickT, ↓z_pickF, ↓x_pick, ↓x_alloc, ↓x_box, ↓x_build, ↓x_bsl, ↓x_load, ↓x_loadN, ↓x_store, ↓x_storeN, ↓x_bin, ↓x_binB, ↓x_binS, ↓x_binP, ↓x_eqf, ↓x_un, ↓x_conv, ↓x_s2b, ↓x_b2s, ↓x_mks, ↓x_slcA, ↓x_slcS, ↓x_slcStr, ↓x_fldA, ↓x_fld, ↓x_idxA, ↓x_idxS, ↓x_idxV, ↓x_ext, ↓x_len, ↓x_lenS, ↓x_lenA, ↓x_app, ↓x_copy, ↓x_mm, ↓x_nck, ↓x_mark, ↓x_idxStr, ev_t, ev_c, evs, evp, mkB, repB, fill, blen, apS_nil, apS_cons, apN_nil, apN_cons, put_some, put_none, upd_0, upd_s, updB_0, updB_s, nth_0, nth_s, nthB_0, nthB_s, thenQ_n, thenQ_e, thenQ_r, blockQ_n, blockQ_e, blockQ_r, retQ, res, resAll, resOne, kill, apartOk, exp, injV, injB, pur, purs, List.set_cons_zero, List.set_cons_succ, List.length_cons, List.length_nil, List.cons_append, List.nil_append, List.append_nil, List.append_assoc, List.length_append, List.reduceReplicate, Nat.reduceAdd, Nat.reduceMul, Nat.reduceSub, Nat.reduceEqDiff, Nat.reduceLT, Nat.zero_add, Nat.add_zero, Nat.mul_one, Int.reduceToNat, Int.toNat_natCast, Int.reduceLE, Int.reduceLT, Int.reduceEq, reduceCtorEq, ↓reduceIte, Bool.true_eq_false, Bool.false_eq_true, Bool.not_true, Bool.not_false, true_and, and_true, and_assoc, dig_length, sub_own, sub_dig, sub_rep, List.length_replicate, Nat.le_refl, forall_const, false_implies, true_implies, ne_eq, not_true_eq_false, not_false_eq_true, decide_true, decide_false, decide_eq_true_eq, decide_eq_false_iff_not, Bool.not_eq_true', Bool.not_eq_false', implies_true]
    have hm := mod_Lo (val 256 a * (val 256 b / 2 ^ (i + 1)))
    have hm0 := mod_Lo (val 256 a)
    have hm2 := val_dig9 (val 256 a * (val 256 b / 2 ^ (i + 1)))
    have hs := half_step (val 256 b) i
    have hz : (2 * (val 256 a * (val 256 b / 2 ^ (i + 1))) + 0) % Lo = (val 256 a * (2 * (val 256 b / 2 ^ (i + 1)))) % Lo := by rw [Int.add_zero, Int.mul_left_comm]
    simp only [hbit, sub_zero, spl_all, dig_length, List.length_cons, List.length_nil, Nat.reduceAdd, Nat.le_refl, Nat.reduceLeDiff, Nat.reduceLT, true_and, and_true, val_dig9, mod_twice, hz, mod_add, hb]
    have hm3 := mod_Lo (val 256 a * (2 * (val 256 b / 2 ^ (i + 1))))
    refine ⟨⟨_, _, rfl, dig_length _ _ _, dig_dig (by decide) _ _, by rw [hm2]; exact hm.2, by omega, by omega⟩, by omega, ?_⟩
    repeat (refine And.intro (by first | omega | rfl) ?_)
    refine ⟨fun h1 => ?_, fun h1 => ?_⟩
    · try simp only [decide_eq_true_eq] at h1
      have he : val 256 a * (2 * (val 256 b / 2 ^ (i + 1))) + val 256 a = val 256 a * (val 256 b / 2 ^ i) := by
        rw [hs, h1, Int.mul_add, Int.mul_one]
      rw [he]
      refine ⟨⟨_, _, rfl, dig_length _ _ _, dig_dig (by decide) _ _, ?_, dig_length _ _ _, dig_dig (by decide) _ _, ?_⟩, i, hK _ (by omega) (by omega), rfl⟩
      · rw [val_dig9]; exact hm3.2
      · rw [val_dig9]; exact hm0.2
    · try simp only [decide_eq_false_iff_not] at h1
      have he : 2 * (val 256 b / 2 ^ (i + 1)) = val 256 b / 2 ^ i := by omega
      rw [he]
      exact ⟨i, hK _ (by omega) (by omega), rfl⟩
  · try simp only [decide_eq_false_iff_not] at hi
    have hk0 : k = 0 := by omega
    subst hk0
    have hm := mod_Lo (val 256 a * val 256 b)
    have hm0 := mod_Lo (val 256 c)
    simp only [sub_zero, spl_all, dig_length, List.length_cons, List.length_nil, Nat.reduceAdd, Nat.le_refl, Nat.reduceLeDiff, Nat.reduceLT, true_and, and_true, Int.pow_zero, Int.ediv_one, val_dig9, mod_add, hc, List.length_replicate]
    refine ⟨⟨c, rfl, hcw, by omega⟩, ⟨_, _, rfl, dig_length _ _ _, dig_dig (by decide) _ _, ?_, dig_length _ _ _, dig_dig (by decide) _ _, ?_⟩, ⟨_, rfl, dig_length _ _ _, dig_dig (by decide) _ _⟩, out_ints rfl⟩
    · rw [val_dig9]; exact hm.2
    · rw [val_dig9]; exact hm0.2
end Am
