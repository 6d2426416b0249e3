/-
Working texts: contracts of functions, and the numbers behind them.
-/
import Derived.Test.YtdmhnlkeaknpeaaDoorShE
import Derived.Test.YtdmhnlkeaknpeaaDoorIrC
import Derived.Test.YtdmhnlkeaknpeaaDoorAmRow
import Derived.Test.YtdmhnlkeaknpeaaDoorAmLoop
set_option linter.unusedSimpArgs false
set_option linter.unusedVariables false
set_option linter.unusedSectionVars false
set_option linter.unusedSimpArgs false
set_option linter.unusedVariables false
set_option maxRecDepth 20000
namespace Am
open Go.Proofs
def preT (ds : List D) : Prop := ds = []
theorem parts_cons {v : V} {vs : List V} (h : Part v) (ht : ∀ v ∈ vs, Part v) : ∀ u ∈ v :: vs, Part u := fun u hu => by
  rcases List.mem_cons.1 hu with rfl | hu
  · exact h
  · exact ht u hu
theorem parts_nil : ∀ u ∈ ([] : List V), Part u := fun u hu => absurd hu (by simp)
theorem part_rsl {xs : List Int} (h : Dig 256 xs) : Part (.rsl 1 xs.length .u8 xs) := .inr ⟨xs, rfl, h⟩
theorem part_rsl' {xs : List Int} {n : Nat} (h : Dig 256 xs) (hn : n = xs.length) : Part (.rsl 1 n .u8 xs) := hn ▸ part_rsl h
def abc : List Int := [97, 98, 99]
theorem abc_dig : Dig 256 [97, 98, 99] := fun x hx => by simp at hx; omega
theorem abc_parts : preParts [.v (.rcs 1 1 [.rsl 1 3 .u8 [97, 98, 99]])] := ⟨_, rfl, parts_cons (part_rsl' abc_dig rfl) parts_nil, by simp [flat], by simp⟩
theorem sub_abc : sub ([97, 98, 99] : List Int) 0 3 = [97, 98, 99] := rfl
theorem flat_abc : flat [.rsl 1 3 .u8 [97, 98, 99]] = abc := rfl
theorem aw256 : (getI (sum256 (padded abc 64)) 0 = 186 ∧ getI (sum256 (padded abc 64)) 1 = 120) ∧ getI (sum256 (padded abc 64)) 2 = 22 ∧ getI (sum256 (padded abc 64)) 3 = 191 := by decide +kernel
theorem aw512 : (getI (sum512 (padded abc 128)) 0 = 221 ∧ getI (sum512 (padded abc 128)) 1 = 175) ∧ getI (sum512 (padded abc 128)) 2 = 53 ∧ getI (sum512 (padded abc 128)) 3 = 161 := by decide +kernel
theorem sum256_len (p : List Int) : (sum256 p).length = 32 := by rw [sum256, O256_len]; rfl
theorem sum512_len (p : List Int) : (sum512 p).length = 64 := by rw [sum512, O512_len]; rfl
def s17 : Summ := sData [] preT FT
set_option maxHeartbeats 4000000 in
theorem ok17 {g : List Blk} [Ge gl g] : SumOK Tryd.prog g 17 s17 ∧ SumAbs s17 := by
  refine fsumA (l := [(18, s18), (20, s20)]) mixed gl_plain rfl Tryd.func17 comp17 compR17 nt17 (by simp only [List.mem_cons, List.not_mem_nil, or_false, forall_eq_or_imp, forall_eq]; exact ⟨ok18, ok20⟩) fun ds hd hA => ?_
  rw [hd]
  simp only [s18, s20]
  simp (maxSteps := 4000000) only [ir17, rs17, gl, FT, s18, s20, F18, F20, sub_abc, flat_abc, abc_parts, aw256.1.1, aw256.1.2, aw256.2.1, aw256.2.2, aw512.1.1, aw512.1.2, aw512.2.1, aw512.2.2, sum256_len, sum512_len, sub_zero, spl_all, dig_length, List.length_cons, List.length_nil, Nat.reduceAdd, Nat.le_refl, Nat.reduceLeDiff, Nat.reduceLT, true_and, and_true, ↓h_bin, ↓h_binB, ↓h_binS, ↓h_binP, ↓h_un, ↓h_content, ↓h_bound, ↓h_part, ↓h_iadd, ↓h_isub, ↓h_imul, ↓h_iquo, ↓h_irem, ↓h_iand, ↓h_ior, ↓h_ixor, ↓h_iandNot, ↓h_ishl, ↓h_ishr, ↓h_ieql, ↓h_ineq, ↓h_ilss, ↓h_ileq, ↓h_igtr, ↓h_igeq, ↓h_call0, ↓h_callM0, ↓h_call1, ↓h_callM1, ↓h_call2, ↓h_callM2, ↓h_call3, ↓h_callM3, ↓h_call4, ↓h_callM4, ↓h_call5, ↓h_callM5, ↓h_call6, ↓h_callM6, ↓h_hit, ↓h_miss, ↓z_sData, ↓h_rds0, ↓h_rds1, ↓h_rdv, ↓h_rds, ↓h_rdr, ↓h_frzs0, ↓h_frzs1, ↓h_fzsl, ↓h_fzp, ↓h_fzi, ↓h_fznils, ↓h_fzrsl, ↓h_fzrcs, ↓h_fzrpi, ↓h_fzrpc, ↓h_fzint, ↓h_fzbool, ↓h_fzstr, ↓h_fzints, ↓h_fznilp, ↓h_fzagg, ↓z_build, ↓z_bsl, ↓z_fill0, ↓z_fillI, ↓z_fillA, ↓y_skip, ↓y_seq, ↓y_ops, ↓y_opsC, ↓z_condT, ↓z_condF, ↓z_condAny, setX_t, ↓y_block, ↓y_exit, ↓y_ret, ↓r_nil, ↓r_g0, ↓r_g1, ↓z_gHit, ↓z_gMiss, ↓z_gTup, ↓z_gAny, Wi_app, ↓y_loop, ↓x_mov, ↓x_movS, ↓z_pickT, ↓z_pickF, ↓x_pick, ↓x_alloc, ↓x_box, ↓x_load, ↓x_loadN, ↓x_store, ↓x_storeN, ↓x_bin, ↓x_binB, ↓x_binS, ↓x_binP, ↓x_eqf, ↓x_un, ↓x_conv, ↓x_s2b, ↓x_b2s, ↓x_mks, ↓x_slcA, ↓x_slcS, ↓x_slcStr, ↓x_fldA, ↓x_fld, ↓x_idxA, ↓x_idxS, ↓x_idxV, ↓x_ext, ↓x_len, ↓x_lenS, ↓x_lenA, ↓x_app, ↓x_appZ, ↓x_eqnS, ↓h_appK, ↓x_copy, ↓x_mm, ↓x_nck, ↓x_mark, ↓x_idxStr, ev_t, List.drop_zero, Nat.sub_zero, nth_asl, look_cons, look_nil, upd_asl, enumV_nil, enumV_cons, asl_length, List.map_cons, List.map_nil, List.zip_cons_cons, List.zip_nil_right, List.zip_nil_left, ev_c, evs, evp, mkB, repB, blen, apS_nil, apS_cons, apN_nil, apN_cons, put_some, put_none, upd_0, upd_s, updB_0, updB_s, nth_0, nth_s, nthB_0, nthB_s, ↓thenQ_n, ↓thenQ_e, ↓thenQ_r, ↓blockQ_n, ↓blockQ_e, ↓blockQ_r, ↓retQ, res, resAll, resOne, kill, apartOk, exp, injV, injB, pur, purs, purR, pursR, List.set_cons_zero, List.set_cons_succ, List.length_cons, List.length_nil, List.cons_append, List.nil_append, List.append_nil, List.append_assoc, List.length_append, List.reduceReplicate, Nat.reduceAdd, Nat.reduceMul, Nat.reduceSub, Nat.reduceEqDiff, Nat.reduceLT, Nat.zero_add, Nat.add_zero, Nat.mul_one, Int.reduceToNat, Int.toNat_natCast, Int.cast_ofNat_Int, Int.reduceLE, Int.reduceLT, Int.reduceEq, reduceCtorEq, ↓reduceIte, Bool.true_eq_false, Bool.false_eq_true, Bool.not_true, Bool.not_false, true_and, and_true, and_assoc, dig_length, sub1, sub_own, sub_dig, sub_rep, List.length_replicate, Nat.le_refl, false_implies, true_implies, ne_eq, not_true_eq_false, not_false_eq_true, decide_true, decide_false, decide_eq_true_eq, decide_eq_false_iff_not, Bool.not_eq_true', Bool.not_eq_false']
  exact out_bool rfl
end Am
