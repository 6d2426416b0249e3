/-
Working texts: contracts of functions, and the numbers behind them.
-/
import Derived.Test.YtjikmagomahhcaaDoorRfD
set_option linter.unusedSimpArgs false
set_option linter.unusedVariables false
set_option linter.unusedSectionVars false
set_option linter.unusedSimpArgs false
set_option linter.unusedVariables false
set_option maxRecDepth 20000
namespace Am
open Go.Proofs
theorem val_mod32 (x : Int) : val 256 (dig 256 32 (x % Lo)) = x % Lo := by
  have := mod_bd (by decide : (0 : Int) < Lo) x
  have h2 : Lo < 256 ^ 32 := by decide
  exact val_dig (by decide) this.1 (by omega)
theorem key_dig (x : Int) : Key (dig 256 32 x) := ⟨dig_length _ _ _, dig_dig (by decide) _ _⟩
theorem val_Z : val 256 [0, 0, 0, 0, 0, 0, 0, 0, 0, 0, 0, 0, 0, 0, 0, 0, 0, 0, 0, 0, 0, 0, 0, 0, 0, 0, 0, 0, 0, 0, 0, 0] = 0 := by decide
theorem val_one : val 256 [1, 0, 0, 0, 0, 0, 0, 0, 0, 0, 0, 0, 0, 0, 0, 0, 0, 0, 0, 0, 0, 0, 0, 0, 0, 0, 0, 0, 0, 0, 0, 0] = 1 := by decide
theorem keyZ : Key [0, 0, 0, 0, 0, 0, 0, 0, 0, 0, 0, 0, 0, 0, 0, 0, 0, 0, 0, 0, 0, 0, 0, 0, 0, 0, 0, 0, 0, 0, 0, 0] := key1_key (by decide)
theorem key_one : Key [1, 0, 0, 0, 0, 0, 0, 0, 0, 0, 0, 0, 0, 0, 0, 0, 0, 0, 0, 0, 0, 0, 0, 0, 0, 0, 0, 0, 0, 0, 0, 0] := key1_key (by decide)
theorem mml (x y z m : Int) : (x % m * y + z) % m = (x * y + z) % m := by
  rw [Int.add_emod, Int.mul_emod, Int.emod_emod_of_dvd _ (Int.dvd_refl _), ← Int.mul_emod, ← Int.add_emod]
theorem mmr (x y m : Int) : (x + y % m) % m = (x + y) % m := by
  rw [Int.add_emod, Int.emod_emod_of_dvd _ (Int.dvd_refl _), ← Int.add_emod]
/-! ### ScalarRuns -/
def preKKK (ds : List D) : Prop := ∃ a b c, ds = [.v (.ints .u8 a), .v (.ints .u8 b), .v (.ints .u8 c)] ∧ Key a ∧ Key b ∧ Key c
theorem lawScalarRuns : ∀ ds, preKKK ds → Does Tryd.prog gl 5 (injV ds 4) (gl ++ injB true ds) (out (4 + (injB true ds).length) (FT ds)) := by
  refine fdoes (l := [(9, s9), (22, s22), (23, s23)]) mixed gl_plain rfl Tryd.func5 comp5 compR5 nt5 (by simp only [List.mem_cons, List.not_mem_nil, or_false, forall_eq_or_imp, forall_eq]; exact ⟨ok9, ok22, ok23⟩) fun ds ⟨a, b, c, hd, ha, hb, hc⟩ hA => ?_
  subst hd
  simp only [s9, s22, s23]
  simp only [ir5, rs5, gl, FT, s9, s22, s23, F22, F23, ha.1, hb.1, hc.1, sub_zero, muladd_len, ↓h_bin, ↓h_binB, ↓h_binS, ↓h_binP, ↓h_un, ↓h_content, ↓h_bound, ↓h_part, ↓h_iadd, ↓h_isub, ↓h_imul, ↓h_iquo, ↓h_irem, ↓h_iand, ↓h_ior, ↓h_ixor, ↓h_iandNot, ↓h_ishl, ↓h_ishr, ↓h_ieql, ↓h_ineq, ↓h_ilss, ↓h_ileq, ↓h_igtr, ↓h_igeq, ↓h_call0, ↓h_callM0, ↓h_call1, ↓h_callM1, ↓h_call2, ↓h_callM2, ↓h_call3, ↓h_callM3, ↓h_call4, ↓h_callM4, ↓h_call5, ↓h_callM5, ↓h_call6, ↓h_callM6, ↓h_hit, ↓h_miss, ↓h_sData, ↓h_rds0, ↓h_rds1, ↓h_rdv, ↓h_rds, ↓h_rdr, ↓h_frzs0, ↓h_frzs1, ↓h_fzsl, ↓h_fzp, ↓h_fzi, ↓h_fznils, ↓h_fzrsl, ↓h_fzrcs, ↓h_fzrpi, ↓h_fzrpc, ↓h_fzint, ↓h_fzbool, ↓h_fzstr, ↓h_fzints, ↓h_fznilp, ↓h_fzagg, ↓h_build0, ↓h_build1, ↓h_build2, ↓h_fill0, ↓h_fill1, ↓y_skip, ↓y_seq, ↓y_ops, ↓y_opsC, ↓z_condT, ↓z_condF, ↓z_condAny, setX_t, ↓y_block, ↓y_exit, ↓y_ret, ↓r_nil, ↓r_g0, ↓r_g1, ↓z_gHit, ↓z_gMiss, ↓z_gTup, ↓z_gAny, Wi_app, ↓y_loop, ↓x_mov, ↓x_movS, ↓z_pickT, ↓z_pickF, ↓x_pick, ↓x_alloc, ↓x_box, ↓x_build, ↓x_bsl, ↓x_load, ↓x_loadN, ↓x_store, ↓x_storeN, ↓x_bin, ↓x_binB, ↓x_binS, ↓x_binP, ↓x_eqf, ↓x_un, ↓x_conv, ↓x_s2b, ↓x_b2s, ↓x_mks, ↓x_slcA, ↓x_slcS, ↓x_slcStr, ↓x_fldA, ↓x_fld, ↓x_idxA, ↓x_idxS, ↓x_idxV, ↓x_ext, ↓x_len, ↓x_lenS, ↓x_lenA, ↓x_app, ↓x_appZ, ↓x_eqnS, ↓h_appK, ↓x_copy, ↓x_mm, ↓x_nck, ↓x_mark, ↓x_idxStr, ev_t, ev_c, evs, evp, mkB, repB, fill, blen, apS_nil, apS_cons, apN_nil, apN_cons, put_some, put_none, upd_0, upd_s, updB_0, updB_s, nth_0, nth_s, nthB_0, nthB_s, ↓thenQ_n, ↓thenQ_e, ↓thenQ_r, ↓blockQ_n, ↓blockQ_e, ↓blockQ_r, ↓retQ, res, resAll, resOne, kill, apartOk, exp, injV, injB, pur, purs, purR, pursR, List.set_cons_zero, List.set_cons_succ, List.length_cons, List.length_nil, List.cons_append, List.nil_append, List.append_nil, List.append_assoc, List.length_append, List.reduceReplicate, Nat.reduceAdd, Nat.reduceMul, Nat.reduceSub, Nat.reduceEqDiff, Nat.reduceLT, Nat.zero_add, Nat.add_zero, Nat.mul_one, Int.reduceToNat, Int.toNat_natCast, Int.reduceLE, Int.reduceLT, Int.reduceEq, reduceCtorEq, ↓reduceIte, Bool.true_eq_false, Bool.false_eq_true, Bool.not_true, Bool.not_false, true_and, and_true, and_assoc, dig_length, sub_own, sub_dig, sub_rep, List.length_replicate, Nat.le_refl, forall_const, false_implies, true_implies, ne_eq, not_true_eq_false, not_false_eq_true, decide_true, decide_false, decide_eq_true_eq, decide_eq_false_iff_not, Bool.not_eq_true', Bool.not_eq_false', implies_true]
  exact ⟨rfl, ⟨_, _, _, rfl, ha, hb, hc⟩, ⟨_, _, _, rfl, ha, hb, hc⟩, out_bool rfl⟩
/-! ### ScalarLaws -/
theorem law1 (a b : List Int) : muladd a b [0, 0, 0, 0, 0, 0, 0, 0, 0, 0, 0, 0, 0, 0, 0, 0, 0, 0, 0, 0, 0, 0, 0, 0, 0, 0, 0, 0, 0, 0, 0, 0] = muladd b a [0, 0, 0, 0, 0, 0, 0, 0, 0, 0, 0, 0, 0, 0, 0, 0, 0, 0, 0, 0, 0, 0, 0, 0, 0, 0, 0, 0, 0, 0, 0, 0] := by unfold muladd; rw [Int.mul_comm]
theorem law2 (a b c : List Int) : muladd (muladd a [1, 0, 0, 0, 0, 0, 0, 0, 0, 0, 0, 0, 0, 0, 0, 0, 0, 0, 0, 0, 0, 0, 0, 0, 0, 0, 0, 0, 0, 0, 0, 0] b) c [0, 0, 0, 0, 0, 0, 0, 0, 0, 0, 0, 0, 0, 0, 0, 0, 0, 0, 0, 0, 0, 0, 0, 0, 0, 0, 0, 0, 0, 0, 0, 0] = muladd a c (muladd b c [0, 0, 0, 0, 0, 0, 0, 0, 0, 0, 0, 0, 0, 0, 0, 0, 0, 0, 0, 0, 0, 0, 0, 0, 0, 0, 0, 0, 0, 0, 0, 0]) := by
  unfold muladd
  rw [val_mod32, val_mod32, val_Z, val_one, mml, mmr]
  congr 2
  rw [Int.mul_one, Int.add_mul]; omega
theorem law3 (a : List Int) : muladd a [1, 0, 0, 0, 0, 0, 0, 0, 0, 0, 0, 0, 0, 0, 0, 0, 0, 0, 0, 0, 0, 0, 0, 0, 0, 0, 0, 0, 0, 0, 0, 0] [0, 0, 0, 0, 0, 0, 0, 0, 0, 0, 0, 0, 0, 0, 0, 0, 0, 0, 0, 0, 0, 0, 0, 0, 0, 0, 0, 0, 0, 0, 0, 0] = red a := by
  unfold muladd red
  rw [val_Z, val_one, Int.mul_one, Int.add_zero]
theorem law4 (a b : List Int) : muladd a [0, 0, 0, 0, 0, 0, 0, 0, 0, 0, 0, 0, 0, 0, 0, 0, 0, 0, 0, 0, 0, 0, 0, 0, 0, 0, 0, 0, 0, 0, 0, 0] b = red b := by
  unfold muladd red
  rw [val_Z, Int.mul_zero, Int.zero_add]
theorem lawScalarLaws : ∀ ds, preKKK ds → Does Tryd.prog gl 6 (injV ds 4) (gl ++ injB true ds) (out (4 + (injB true ds).length) (FT ds)) := by
  refine fdoes (l := [(9, s9), (22, s22), (10, s10)]) mixed gl_plain rfl Tryd.func6 comp6 compR6 nt6 (by simp only [List.mem_cons, List.not_mem_nil, or_false, forall_eq_or_imp, forall_eq]; exact ⟨ok9, ok22, ok10⟩) fun ds ⟨a, b, c, hd, ha, hb, hc⟩ hA => ?_
  subst hd
  simp only [s9, s22, s10]
  simp only [ir6, rs6, gl, FT, s9, s22, s10, F22, F10, ha.1, hb.1, hc.1, sub_zero, muladd_len, red_len, sub_zero ha.1, sub_zero hb.1, law1 b a, law2, law3, law4, sub_zero, spl_all, dig_length, List.length_cons, List.length_nil, Nat.reduceAdd, Nat.le_refl, Nat.reduceLeDiff, Nat.reduceLT, true_and, and_true, ↓h_bin, ↓h_binB, ↓h_binS, ↓h_binP, ↓h_un, ↓h_content, ↓h_bound, ↓h_part, ↓h_iadd, ↓h_isub, ↓h_imul, ↓h_iquo, ↓h_irem, ↓h_iand, ↓h_ior, ↓h_ixor, ↓h_iandNot, ↓h_ishl, ↓h_ishr, ↓h_ieql, ↓h_ineq, ↓h_ilss, ↓h_ileq, ↓h_igtr, ↓h_igeq, ↓h_call0, ↓h_callM0, ↓h_call1, ↓h_callM1, ↓h_call2, ↓h_callM2, ↓h_call3, ↓h_callM3, ↓h_call4, ↓h_callM4, ↓h_call5, ↓h_callM5, ↓h_call6, ↓h_callM6, ↓h_hit, ↓h_miss, ↓h_sData, ↓h_rds0, ↓h_rds1, ↓h_rdv, ↓h_rds, ↓h_rdr, ↓h_frzs0, ↓h_frzs1, ↓h_fzsl, ↓h_fzp, ↓h_fzi, ↓h_fznils, ↓h_fzrsl, ↓h_fzrcs, ↓h_fzrpi, ↓h_fzrpc, ↓h_fzint, ↓h_fzbool, ↓h_fzstr, ↓h_fzints, ↓h_fznilp, ↓h_fzagg, ↓h_build0, ↓h_build1, ↓h_build2, ↓h_fill0, ↓h_fill1, ↓y_skip, ↓y_seq, ↓y_ops, ↓y_opsC, ↓z_condT, ↓z_condF, ↓z_condAny, setX_t, ↓y_block, ↓y_exit, ↓y_ret, ↓r_nil, ↓r_g0, ↓r_g1, ↓z_gHit, ↓z_gMiss, ↓z_gTup, ↓z_gAny, Wi_app, ↓y_loop, ↓x_mov, ↓x_movS, ↓z_pickT, ↓z_pickF, ↓x_pick, ↓x_alloc, ↓x_box, ↓x_build, ↓x_bsl, ↓x_load, ↓x_loadN, ↓x_store, ↓x_storeN, ↓x_bin, ↓x_binB, ↓x_binS, ↓x_binP, ↓x_eqf, ↓x_un, ↓x_conv, ↓x_s2b, ↓x_b2s, ↓x_mks, ↓x_slcA, ↓x_slcS, ↓x_slcStr, ↓x_fldA, ↓x_fld, ↓x_idxA, ↓x_idxS, ↓x_idxV, ↓x_ext, ↓x_len, ↓x_lenS, ↓x_lenA, ↓x_app, ↓x_appZ, ↓x_eqnS, ↓h_appK, ↓x_copy, ↓x_mm, ↓x_nck, ↓x_mark, ↓x_idxStr, ev_t, ev_c, evs, evp, mkB, repB, fill, blen, apS_nil, apS_cons, apN_nil, apN_cons, put_some, put_none, upd_0, upd_s, updB_0, updB_s, nth_0, nth_s, nthB_0, nthB_s, ↓thenQ_n, ↓thenQ_e, ↓thenQ_r, ↓blockQ_n, ↓blockQ_e, ↓blockQ_r, ↓retQ, res, resAll, resOne, kill, apartOk, exp, injV, injB, pur, purs, purR, pursR, List.set_cons_zero, List.set_cons_succ, List.length_cons, List.length_nil, List.cons_append, List.nil_append, List.append_nil, List.append_assoc, List.length_append, List.reduceReplicate, Nat.reduceAdd, Nat.reduceMul, Nat.reduceSub, Nat.reduceEqDiff, Nat.reduceLT, Nat.zero_add, Nat.add_zero, Nat.mul_one, Int.reduceToNat, Int.toNat_natCast, Int.reduceLE, Int.reduceLT, Int.reduceEq, reduceCtorEq, ↓reduceIte, Bool.true_eq_false, Bool.false_eq_true, Bool.not_true, Bool.not_false, true_and, and_true, and_assoc, dig_length, sub_own, sub_dig, sub_rep, List.length_replicate, Nat.le_refl, forall_const, false_implies, true_implies, ne_eq, not_true_eq_false, not_false_eq_true, decide_true, decide_false, decide_eq_true_eq, decide_eq_false_iff_not, Bool.not_eq_true', Bool.not_eq_false', implies_true]
  have t1 : ∀ x y z : List Int, Key x → Key y → Key z → pre22 [.v (.ints .u8 x), .v (.ints .u8 y), .v (.ints .u8 z)] := fun x y z h1 h2 h3 => ⟨_, _, _, rfl, h1, h2, h3⟩
  exact ⟨rfl, t1 _ _ _ ha key_one hb, t1 _ _ _ ha hb keyZ, t1 _ _ _ hb ha keyZ, t1 _ _ _ (key_dig _) hc keyZ, t1 _ _ _ hb hc keyZ, t1 _ _ _ ha hc (key_dig _), t1 _ _ _ ha key_one keyZ, ⟨_, rfl, ha.2, by have := ha.1; omega⟩, t1 _ _ _ ha keyZ hb, ⟨_, rfl, hb.2, by have := hb.1; omega⟩, out_bool rfl⟩
/-! ### ScalarReduces -/
theorem val_red (b : List Int) : val 256 (red b) = val 256 b % Lo := val_mod32 _
theorem red_red (b : List Int) : red (red b) = red b := by
  show dig 256 32 (val 256 (red b) % Lo) = red b
  rw [val_red, Int.emod_emod_of_dvd _ (Int.dvd_refl _)]
  rfl
theorem check_iff {k : List Int} (hk : Key k) : decide (red k = k) = decide (val 256 k < Lo) := by
  rw [decide_eq_decide]
  have h0 := val_nonneg (by decide : (0 : Int) < 256) hk.2
  constructor
  · intro h
    have := val_red k
    rw [h] at this
    have := mod_bd (by decide : (0 : Int) < Lo) (val 256 k)
    omega
  · intro h
    unfold red
    rw [Int.emod_eq_of_lt h0 h, ← hk.1]
    exact dig_val (by decide) hk.2
def pre3 (ds : List D) : Prop := ∃ b k, ds = [.s .u8 b, .v (.ints .u8 k)] ∧ Dig 256 b ∧ Key k
theorem lawScalarReduces : ∀ ds, pre3 ds → Does Tryd.prog gl 3 (injV ds 4) (gl ++ injB true ds) (out (4 + (injB true ds).length) (FT ds)) := by
  refine fdoes (l := [(9, s9), (10, s10), (11, s11), (12, s12), (14, s14), (15, s15), (13, s13)]) mixed gl_plain rfl Tryd.func3 comp3 compR3 nt3 (by simp only [List.mem_cons, List.not_mem_nil, or_false, forall_eq_or_imp, forall_eq]; exact ⟨ok9, ok10, ok11, ok12, ok14, ok15, ok13⟩) fun ds ⟨b, k, hd, hb, hk⟩ hA => ?_
  subst hd
  simp only [s9, s10, s11, s12, s14, s15, s13]
  have vk := val_of hk.2
  rw [hk.1] at vk
  simp only [Nat.reduceAdd, Nat.reduceDiv] at vk
  simp only [ir3, rs3, gl, FT, s10, s11, s12, s14, s15, s13, F10, F11, F12, F14, F15, F13, s9, hk.1, red_len, red_red, val_Ls, vk, check_iff hk, sub_zero hk.1, sub_zero, spl_all, dig_length, List.length_cons, List.length_nil, Nat.reduceAdd, Nat.le_refl, Nat.reduceLeDiff, Nat.reduceLT, true_and, and_true, ↓h_bin, ↓h_binB, ↓h_binS, ↓h_binP, ↓h_un, ↓h_content, ↓h_bound, ↓h_part, ↓h_iadd, ↓h_isub, ↓h_imul, ↓h_iquo, ↓h_irem, ↓h_iand, ↓h_ior, ↓h_ixor, ↓h_iandNot, ↓h_ishl, ↓h_ishr, ↓h_ieql, ↓h_ineq, ↓h_ilss, ↓h_ileq, ↓h_igtr, ↓h_igeq, ↓h_call0, ↓h_callM0, ↓h_call1, ↓h_callM1, ↓h_call2, ↓h_callM2, ↓h_call3, ↓h_callM3, ↓h_call4, ↓h_callM4, ↓h_call5, ↓h_callM5, ↓h_call6, ↓h_callM6, ↓h_hit, ↓h_miss, ↓h_sData, ↓h_rds0, ↓h_rds1, ↓h_rdv, ↓h_rds, ↓h_rdr, ↓h_frzs0, ↓h_frzs1, ↓h_fzsl, ↓h_fzp, ↓h_fzi, ↓h_fznils, ↓h_fzrsl, ↓h_fzrcs, ↓h_fzrpi, ↓h_fzrpc, ↓h_fzint, ↓h_fzbool, ↓h_fzstr, ↓h_fzints, ↓h_fznilp, ↓h_fzagg, ↓h_build0, ↓h_build1, ↓h_build2, ↓h_fill0, ↓h_fill1, ↓y_skip, ↓y_seq, ↓y_ops, ↓y_opsC, ↓z_condT, ↓z_condF, ↓z_condAny, setX_t, ↓y_block, ↓y_exit, ↓y_ret, ↓r_nil, ↓r_g0, ↓r_g1, ↓z_gHit, ↓z_gMiss, ↓z_gTup, ↓z_gAny, Wi_app, ↓y_loop, ↓x_mov, ↓x_movS, ↓z_pickT, ↓z_pickF, ↓x_pick, ↓x_alloc, ↓x_box, ↓x_build, ↓x_bsl, ↓x_load, ↓x_loadN, ↓x_store, ↓x_storeN, ↓x_bin, ↓x_binB, ↓x_binS, ↓x_binP, ↓x_eqf, ↓x_un, ↓x_conv, ↓x_s2b, ↓x_b2s, ↓x_mks, ↓x_slcA, ↓x_slcS, ↓x_slcStr, ↓x_fldA, ↓x_fld, ↓x_idxA, ↓x_idxS, ↓x_idxV, ↓x_ext, ↓x_len, ↓x_lenS, ↓x_lenA, ↓x_app, ↓x_appZ, ↓x_eqnS, ↓h_appK, ↓x_copy, ↓x_mm, ↓x_nck, ↓x_mark, ↓x_idxStr, ev_t, ev_c, evs, evp, mkB, repB, fill, blen, apS_nil, apS_cons, apN_nil, apN_cons, put_some, put_none, upd_0, upd_s, updB_0, updB_s, nth_0, nth_s, nthB_0, nthB_s, ↓thenQ_n, ↓thenQ_e, ↓thenQ_r, ↓blockQ_n, ↓blockQ_e, ↓blockQ_r, ↓retQ, res, resAll, resOne, kill, apartOk, exp, injV, injB, pur, purs, purR, pursR, List.set_cons_zero, List.set_cons_succ, List.length_cons, List.length_nil, List.cons_append, List.nil_append, List.append_nil, List.append_assoc, List.length_append, List.reduceReplicate, Nat.reduceAdd, Nat.reduceMul, Nat.reduceSub, Nat.reduceEqDiff, Nat.reduceLT, Nat.zero_add, Nat.add_zero, Nat.mul_one, Int.reduceToNat, Int.toNat_natCast, Int.reduceLE, Int.reduceLT, Int.reduceEq, reduceCtorEq, ↓reduceIte, Bool.true_eq_false, Bool.false_eq_true, Bool.not_true, Bool.not_false, true_and, and_true, and_assoc, dig_length, sub_own, sub_dig, sub_rep, List.length_replicate, Nat.le_refl, forall_const, false_implies, true_implies, ne_eq, not_true_eq_false, not_false_eq_true, decide_true, decide_false, decide_eq_true_eq, decide_eq_false_iff_not, Bool.not_eq_true', Bool.not_eq_false', implies_true]
  refine ⟨rfl, fun h => out_bool rfl, fun h => ?_⟩
  exact ⟨⟨_, rfl, hb, by omega⟩, ⟨_, rfl, hb, by omega⟩, ⟨_, rfl, hk⟩, ⟨_, rfl, hk.2, by have := hk.1; omega⟩, rfl, ⟨_, _, rfl, dig_dig (by decide) _ _, Ls_dig, by simp [dig_length], by decide⟩, ⟨_, rfl, hb, by omega⟩, ⟨_, rfl, key_dig _⟩, out_bool rfl⟩
end Am
set_option linter.unusedSimpArgs false
set_option linter.unusedVariables false
set_option maxRecDepth 20000
namespace Am
open Go.Proofs
theorem val_zeros (B : Int) : ∀ n, val B (List.replicate n 0) = 0
  | 0 => rfl
  | n + 1 => by rw [List.replicate_succ, val, val_zeros B n]; simp
def pre7 (ds : List D) : Prop := ∃ a b n, ds = [.v (.ints .u8 a), .v (.ints .u8 b), .v (.int .u8 n)] ∧ Key a ∧ Key b ∧ 0 ≤ n ∧ n < 256
set_option maxHeartbeats 4000000 in
theorem lawScalarLong : ∀ ds, pre7 ds → Does Tryd.prog gl 7 (injV ds 4) (gl ++ injB true ds) (out (4 + (injB true ds).length) (FT ds)) := by
  refine fdoes (l := [(9, s9), (22, s22), (10, s10)]) mixed gl_plain rfl Tryd.func7 comp7 compR7 nt7 (by simp only [List.mem_cons, List.not_mem_nil, or_false, forall_eq_or_imp, forall_eq]; exact ⟨ok9, ok22, ok10⟩) fun ds ⟨a, b, n, hd, ha, hb, h0, h1⟩ hA => ?_
  subst hd
  obtain ⟨q, hq, q1⟩ : ∃ q : Nat, n.tmod 20 = (q : Int) ∧ q < 20 := by
    refine ⟨(n % 20).toNat, ?_, by omega⟩
    rw [Int.tmod_eq_emod_of_nonneg h0]; omega
  simp only [s9, s22, s10]
  have hs2 : sub (a ++ (b ++ List.replicate q 0)) 0 (64 + q) = a ++ (b ++ List.replicate q 0) := sub_zero (by simp only [List.length_append, ha.1, hb.1, List.length_replicate]; omega)
  have hv0 : val 256 (a ++ (b ++ List.replicate q 0)) = val 256 (a ++ b) := by
    rw [← List.append_assoc, val_append 256 (a ++ b), val_zeros, Int.mul_zero, Int.add_zero]
  have hr : red (a ++ (b ++ List.replicate q 0)) = red (a ++ b) := by unfold red; rw [hv0]
  have hm : muladd b (red (0 :: 0 :: 0 :: 0 :: 0 :: 0 :: 0 :: 0 :: 0 :: 0 :: 0 :: 0 :: 0 :: 0 :: 0 :: 0 :: 0 :: 0 :: 0 :: 0 :: 0 :: 0 :: 0 :: 0 :: 0 :: 0 :: 0 :: 0 :: 0 :: 0 :: 0 :: 0 :: [1])) a = red (a ++ b) := by
    unfold muladd
    unfold red
    rw [val_mod32, val_append, ha.1]
    congr 1
    rw [show val 256 (0 :: 0 :: 0 :: 0 :: 0 :: 0 :: 0 :: 0 :: 0 :: 0 :: 0 :: 0 :: 0 :: 0 :: 0 :: 0 :: 0 :: 0 :: 0 :: 0 :: 0 :: 0 :: 0 :: 0 :: 0 :: 0 :: 0 :: 0 :: 0 :: 0 :: 0 :: 0 :: [1]) = 256 ^ 32 by decide, Int.add_emod, Int.mul_emod, Int.emod_emod_of_dvd _ (Int.dvd_refl _), ← Int.mul_emod, ← Int.add_emod, Int.mul_comm, Int.add_comm]
  have p1 : pre10 [.s .u8 (0 :: 0 :: 0 :: 0 :: 0 :: 0 :: 0 :: 0 :: 0 :: 0 :: 0 :: 0 :: 0 :: 0 :: 0 :: 0 :: 0 :: 0 :: 0 :: 0 :: 0 :: 0 :: 0 :: 0 :: 0 :: 0 :: 0 :: 0 :: 0 :: 0 :: 0 :: 0 :: [1])] := ⟨_, rfl, by unfold Dig; decide, by decide⟩
  have d1 : Dig 256 (a ++ b) := ha.2.append hb.2
  have p2 : pre10 [.s .u8 (a ++ b)] := ⟨_, rfl, d1, by simp only [List.length_append, ha.1, hb.1]; omega⟩
  have p3 : pre10 [.s .u8 (a ++ (b ++ List.replicate q 0))] := ⟨_, rfl, ha.2.append (hb.2.append (Dig.replicate q (by decide))), by simp only [List.length_append, ha.1, hb.1, List.length_replicate]; omega⟩
  have p4 : pre22 [.v (.ints .u8 b), .v (.ints .u8 (red (0 :: 0 :: 0 :: 0 :: 0 :: 0 :: 0 :: 0 :: 0 :: 0 :: 0 :: 0 :: 0 :: 0 :: 0 :: 0 :: 0 :: 0 :: 0 :: 0 :: 0 :: 0 :: 0 :: 0 :: 0 :: 0 :: 0 :: 0 :: 0 :: 0 :: 0 :: 0 :: [1]))), .v (.ints .u8 a)] := ⟨_, _, _, rfl, hb, key_dig _, ha⟩
  have p5 : preT [] := rfl
  simp only [ir7, rs7, gl, FT, s22, s10, F22, F10, s9, ha.1, hb.1, hq, hs2, hr, hm, p1, p2, p3, p4, p5, sub_zero ha.1, sub_zero hb.1, red_len, List.drop_zero, Int.cast_ofNat_Int, sub_zero, spl_all, dig_length, List.length_cons, List.length_nil, Nat.reduceAdd, Nat.le_refl, Nat.reduceLeDiff, Nat.reduceLT, true_and, and_true, ↓h_bin, ↓h_binB, ↓h_binS, ↓h_binP, ↓h_un, ↓h_content, ↓h_bound, ↓h_part, ↓h_iadd, ↓h_isub, ↓h_imul, ↓h_iquo, ↓h_irem, ↓h_iand, ↓h_ior, ↓h_ixor, ↓h_iandNot, ↓h_ishl, ↓h_ishr, ↓h_ieql, ↓h_ineq, ↓h_ilss, ↓h_ileq, ↓h_igtr, ↓h_igeq, ↓h_call0, ↓h_callM0, ↓h_call1, ↓h_callM1, ↓h_call2, ↓h_callM2, ↓h_call3, ↓h_callM3, ↓h_call4, ↓h_callM4, ↓h_call5, ↓h_callM5, ↓h_call6, ↓h_callM6, ↓h_hit, ↓h_miss, ↓h_sData, ↓h_rds0, ↓h_rds1, ↓h_rdv, ↓h_rds, ↓h_rdr, ↓h_frzs0, ↓h_frzs1, ↓h_fzsl, ↓h_fzp, ↓h_fzi, ↓h_fznils, ↓h_fzrsl, ↓h_fzrcs, ↓h_fzrpi, ↓h_fzrpc, ↓h_fzint, ↓h_fzbool, ↓h_fzstr, ↓h_fzints, ↓h_fznilp, ↓h_fzagg, ↓h_build0, ↓h_build1, ↓h_build2, ↓h_fill0, ↓h_fill1, ↓y_skip, ↓y_seq, ↓y_ops, ↓y_opsC, ↓z_condT, ↓z_condF, ↓z_condAny, setX_t, ↓y_block, ↓y_exit, ↓y_ret, ↓r_nil, ↓r_g0, ↓r_g1, ↓z_gHit, ↓z_gMiss, ↓z_gTup, ↓z_gAny, Wi_app, ↓y_loop, ↓x_mov, ↓x_movS, ↓z_pickT, ↓z_pickF, ↓x_pick, ↓x_alloc, ↓x_box, ↓x_build, ↓x_bsl, ↓x_load, ↓x_loadN, ↓x_store, ↓x_storeN, ↓x_bin, ↓x_binB, ↓x_binS, ↓x_binP, ↓x_eqf, ↓x_un, ↓x_conv, ↓x_s2b, ↓x_b2s, ↓x_mks, ↓x_slcA, ↓x_slcS, ↓x_slcStr, ↓x_fldA, ↓x_fld, ↓x_idxA, ↓x_idxS, ↓x_idxV, ↓x_ext, ↓x_len, ↓x_lenS, ↓x_lenA, ↓x_app, ↓x_appZ, ↓x_eqnS, ↓h_appK, ↓x_copy, ↓x_mm, ↓x_nck, ↓x_mark, ↓x_idxStr, ev_t, ev_c, evs, evp, mkB, repB, fill, blen, apS_nil, apS_cons, apN_nil, apN_cons, put_some, put_none, upd_0, upd_s, updB_0, updB_s, nth_0, nth_s, nthB_0, nthB_s, ↓thenQ_n, ↓thenQ_e, ↓thenQ_r, ↓blockQ_n, ↓blockQ_e, ↓blockQ_r, ↓retQ, res, resAll, resOne, kill, apartOk, exp, injV, injB, pur, purs, purR, pursR, List.set_cons_zero, List.set_cons_succ, List.length_cons, List.length_nil, List.cons_append, List.nil_append, List.append_nil, List.append_assoc, List.length_append, List.reduceReplicate, Nat.reduceAdd, Nat.reduceMul, Nat.reduceSub, Nat.reduceEqDiff, Nat.reduceLT, Nat.zero_add, Nat.add_zero, Nat.mul_one, Int.reduceToNat, Int.toNat_natCast, Int.reduceLE, Int.reduceLT, Int.reduceEq, reduceCtorEq, ↓reduceIte, Bool.true_eq_false, Bool.false_eq_true, Bool.not_true, Bool.not_false, true_and, and_true, and_assoc, dig_length, sub_own, sub_dig, sub_rep, List.length_replicate, Nat.le_refl, forall_const, false_implies, true_implies, ne_eq, not_true_eq_false, not_false_eq_true, decide_true, decide_false, decide_eq_true_eq, decide_eq_false_iff_not, Bool.not_eq_true', Bool.not_eq_false', implies_true]
  exact ⟨by omega, by omega, by omega, by omega, out_bool rfl⟩
end Am
