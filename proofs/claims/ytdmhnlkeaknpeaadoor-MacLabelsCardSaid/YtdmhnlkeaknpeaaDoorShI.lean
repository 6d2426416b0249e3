/-
Working texts: contracts of functions, and the numbers behind them.
-/
import Derived.Test.YtdmhnlkeaknpeaaDoorShG
import Derived.Test.YtdmhnlkeaknpeaaDoorIrC
set_option linter.unusedSimpArgs false
set_option linter.unusedVariables false
set_option linter.unusedSectionVars false
set_option linter.unusedSimpArgs false
set_option linter.unusedVariables false
set_option maxRecDepth 20000
namespace Am
open Go.Proofs
def s11k : List Int := [0, 1, 2, 3, 4, 5, 6, 7, 8, 9, 10, 11, 12]
theorem aw04 : (getI (hmac s11k (List.replicate 22 11)) 0 = 7 ∧ getI (hmac s11k (List.replicate 22 11)) 1 = 119) ∧ getI (hmac s11k (List.replicate 22 11)) 2 = 9 ∧ getI (hmac s11k (List.replicate 22 11)) 3 = 54 := by decide +kernel
def el : Nat → List Int := fun i => List.replicate i 11 ++ List.replicate (22 - i) 0
theorem el_len {i : Nat} (h : i ≤ 22) : (el i).length = 22 := by simp [el]; omega
theorem el_set {i : Nat} (h : i < 22) : (el i).set i 11 = el (i + 1) := by
  rw [el, List.set_append_right _ _ (by simp), List.length_replicate, Nat.sub_self, show 22 - i = (22 - (i + 1)) + 1 by omega, List.replicate_succ, List.set_cons_zero, el, List.replicate_succ', List.append_assoc]
  rfl
def s11 : Summ := sData [] preT FT
theorem ok11 {g : List Blk} [Ge gl g] : SumOK Tryd.prog g 11 s11 ∧ SumAbs s11 := by
  refine fsumA (l := [(14, s14)]) mixed gl_plain rfl Tryd.func11 comp11 compR11 nt11 (by simp only [List.mem_cons, List.not_mem_nil, or_false, forall_eq]; exact ok14) fun ds hd hA => ?_
  rw [hd]
  simp only [s14]
  simp only [ir11,rs11,gl,FT,qda,qc6,qaj,List.length_cons,List.length_nil,Nat.reduceAdd,Nat.le_refl,Nat.reduceLeDiff,Nat.reduceLT,true_and,and_true,↓qax,↓qay,↓qa0,↓qaz,↓qcs,↓qbj,↓qa1,↓qcl,↓qb3,↓qci,↓qcb,↓qce,↓qcf,↓qb4,↓qcd,↓qcj,↓qb5,↓qcg,↓qch,↓qb6,↓qcc,↓qca,↓qb9,↓qb8,↓qb7,↓qa5,↓qbc,↓qa6,↓qbd,↓qa7,↓qbe,↓qa8,↓qbf,↓qa9,↓qbg,↓qba,↓qbh,↓qbb,↓qbi,↓qb2,↓qck,↓qfa,↓qco,↓qcp,↓qcq,↓qcn,↓qcm,↓qbm,↓qbn,↓qb0,↓qbv,↓qbq,↓qbu,↓qbz,↓qbw,↓qby,↓qbx,↓qbr,↓qbp,↓qb1,↓qbs,↓qbt,↓qbo,↓qex,↓qew,↓qe1,↓qe3,↓qe2,↓qev,↓qeu,↓qer,↓qes,↓qe0,↓qez,↓qey,qc5,↓qeo,↓qep,↓qet,↓qc4,↓qc2,↓qc3,↓qe5,↓qe6,↓qe7,↓qe4,qaa,↓qeq,↓qed,↓qee,↓qe9,↓qe8,↓qeg,↓qdj,↓qdr,↓qd8,↓qd9,↓qel,↓qem,↓qdn,↓qdo,↓qdq,↓qdp,↓qdw,↓qen,↓qdu,↓qeh,↓qdm,↓qeb,↓qei,↓qej,↓qek,↓qd0,↓qdz,↓qd1,↓qd2,↓qd4,↓qdy,↓qd5,↓qd7,↓qd6,↓qdk,↓qdl,↓qdx,↓qaw,↓qdv,↓qec,↓qef,↓qea,↓qd3,qav,List.drop_zero,Nat.sub_zero,qcy,qct,qcu,qdh,qat,qas,qaf,List.map_cons,List.map_nil,List.zip_cons_cons,List.zip_nil_right,List.zip_nil_left,qau,evs,evp,mkB,repB,blen,qae,qad,qac,qab,qc1,qc0,qdg,qdi,qde,qdf,qcx,qcz,qcv,qcw,↓qdc,↓qdb,↓qdd,↓qah,↓qag,↓qai,↓retQ,res,resAll,resOne,kill,apartOk,exp,injV,injB,pur,purs,purR,pursR,List.set_cons_zero,List.set_cons_succ,List.length_cons,List.length_nil,List.cons_append,List.nil_append,List.append_nil,List.append_assoc,List.length_append,List.reduceReplicate,Nat.reduceAdd,Nat.reduceMul,Nat.reduceSub,Nat.reduceEqDiff,Nat.reduceLT,Nat.zero_add,Nat.add_zero,Nat.mul_one,Int.reduceToNat,Int.toNat_natCast,Int.cast_ofNat_Int,Int.reduceLE,Int.reduceLT,Int.reduceEq,reduceCtorEq,↓reduceIte,Bool.true_eq_false,Bool.false_eq_true,Bool.not_true,Bool.not_false,true_and,and_true,and_assoc,qaj,sub1,qc8,qc7,qc9,List.length_replicate,Nat.le_refl,false_implies,true_implies,ne_eq,not_true_eq_false,not_false_eq_true,decide_true,decide_false,decide_eq_true_eq,decide_eq_false_iff_not,Bool.not_eq_true',Bool.not_eq_false']
  refine ⟨by omega, ?_⟩
  refine awp_loopA (n := 35) hA [1, 6, 7] (by decide +kernel) (fun i : Nat => [.slice 4 0 1 22 22, .int .i64 22, .int .i64 i])
    (fun i => [.ints true .u64 roots, .dead, .dead, .dead, .ints false .u8 (el i)]) (fun i => i ≤ 22) (fun i => 22 - i) 0 ?_ (by omega) ?_
  · refine Hd.same ?_
    simp only [el,List.reduceReplicate,↓qax,↓qay,↓qa0,↓qaz,↓qcs,↓qbj,↓qa1,↓qcl,↓qb3,↓qci,↓qcb,↓qce,↓qcf,↓qb4,↓qcd,↓qcj,↓qb5,↓qcg,↓qch,↓qb6,↓qcc,↓qca,↓qb9,↓qb8,↓qb7,↓qa5,↓qbc,↓qa6,↓qbd,↓qa7,↓qbe,↓qa8,↓qbf,↓qa9,↓qbg,↓qba,↓qbh,↓qbb,↓qbi,↓qb2,↓qck,↓qfa,↓qco,↓qcp,↓qcq,↓qcn,↓qcm,↓qbm,↓qbn,↓qb0,↓qbv,↓qbq,↓qbu,↓qbz,↓qbw,↓qby,↓qbx,↓qbr,↓qbp,↓qb1,↓qbs,↓qbt,↓qbo,↓qex,↓qew,↓qe1,↓qe3,↓qe2,↓qev,↓qeu,↓qer,↓qes,↓qe0,↓qez,↓qey,qc5,↓qeo,↓qep,↓qet,↓qc4,↓qc2,↓qc3,↓qe5,↓qe6,↓qe7,↓qe4,qaa,↓qeq,↓qed,↓qee,↓qe9,↓qe8,↓qeg,↓qdj,↓qdr,↓qd8,↓qd9,↓qel,↓qem,↓qdn,↓qdo,↓qdq,↓qdp,↓qdw,↓qen,↓qdu,↓qeh,↓qdm,↓qeb,↓qei,↓qej,↓qek,↓qd0,↓qdz,↓qd1,↓qd2,↓qd4,↓qdy,↓qd5,↓qd7,↓qd6,↓qdk,↓qdl,↓qdx,↓qaw,↓qdv,↓qec,↓qef,↓qea,↓qd3,qav,List.drop_zero,Nat.sub_zero,qcy,qct,qcu,qdh,qat,qas,qaf,List.map_cons,List.map_nil,List.zip_cons_cons,List.zip_nil_right,List.zip_nil_left,qau,evs,evp,mkB,repB,blen,qae,qad,qac,qab,qc1,qc0,qdg,qdi,qde,qdf,qcx,qcz,qcv,qcw,↓qdc,↓qdb,↓qdd,↓qah,↓qag,↓qai,↓retQ,res,resAll,resOne,kill,apartOk,exp,injV,injB,pur,purs,purR,pursR,List.set_cons_zero,List.set_cons_succ,List.length_cons,List.length_nil,List.cons_append,List.nil_append,List.append_nil,List.append_assoc,List.length_append,List.reduceReplicate,Nat.reduceAdd,Nat.reduceMul,Nat.reduceSub,Nat.reduceEqDiff,Nat.reduceLT,Nat.zero_add,Nat.add_zero,Nat.mul_one,Int.reduceToNat,Int.toNat_natCast,Int.cast_ofNat_Int,Int.reduceLE,Int.reduceLT,Int.reduceEq,reduceCtorEq,↓reduceIte,Bool.true_eq_false,Bool.false_eq_true,Bool.not_true,Bool.not_false,true_and,and_true,and_assoc,qaj,sub1,qc8,qc7,qc9,List.length_replicate,Nat.le_refl,false_implies,true_implies,ne_eq,not_true_eq_false,not_false_eq_true,decide_true,decide_false,decide_eq_true_eq,decide_eq_false_iff_not,Bool.not_eq_true',Bool.not_eq_false']
  intro i hi K hK
  have w1 : Go.IntKind.i64.wrap ((i : Int) + 1) = ((i + 1 : Nat) : Int) := by rw [wrap_i64]; omega
  by_cases hlt : i < 22
  · have c : (i : Int) < 22 := by omega
    have hl := el_len hi
    simp only [c,w1,hl,el_set hlt,qda,qc6,qaj,List.length_cons,List.length_nil,Nat.reduceAdd,Nat.le_refl,Nat.reduceLeDiff,Nat.reduceLT,true_and,and_true,↓qax,↓qay,↓qa0,↓qaz,↓qcs,↓qbj,↓qa1,↓qcl,↓qb3,↓qci,↓qcb,↓qce,↓qcf,↓qb4,↓qcd,↓qcj,↓qb5,↓qcg,↓qch,↓qb6,↓qcc,↓qca,↓qb9,↓qb8,↓qb7,↓qa5,↓qbc,↓qa6,↓qbd,↓qa7,↓qbe,↓qa8,↓qbf,↓qa9,↓qbg,↓qba,↓qbh,↓qbb,↓qbi,↓qb2,↓qck,↓qfa,↓qco,↓qcp,↓qcq,↓qcn,↓qcm,↓qbm,↓qbn,↓qb0,↓qbv,↓qbq,↓qbu,↓qbz,↓qbw,↓qby,↓qbx,↓qbr,↓qbp,↓qb1,↓qbs,↓qbt,↓qbo,↓qex,↓qew,↓qe1,↓qe3,↓qe2,↓qev,↓qeu,↓qer,↓qes,↓qe0,↓qez,↓qey,qc5,↓qeo,↓qep,↓qet,↓qc4,↓qc2,↓qc3,↓qe5,↓qe6,↓qe7,↓qe4,qaa,↓qeq,↓qed,↓qee,↓qe9,↓qe8,↓qeg,↓qdj,↓qdr,↓qd8,↓qd9,↓qel,↓qem,↓qdn,↓qdo,↓qdq,↓qdp,↓qdw,↓qen,↓qdu,↓qeh,↓qdm,↓qeb,↓qei,↓qej,↓qek,↓qd0,↓qdz,↓qd1,↓qd2,↓qd4,↓qdy,↓qd5,↓qd7,↓qd6,↓qdk,↓qdl,↓qdx,↓qaw,↓qdv,↓qec,↓qef,↓qea,↓qd3,qav,List.drop_zero,Nat.sub_zero,qcy,qct,qcu,qdh,qat,qas,qaf,List.map_cons,List.map_nil,List.zip_cons_cons,List.zip_nil_right,List.zip_nil_left,qau,evs,evp,mkB,repB,blen,qae,qad,qac,qab,qc1,qc0,qdg,qdi,qde,qdf,qcx,qcz,qcv,qcw,↓qdc,↓qdb,↓qdd,↓qah,↓qag,↓qai,↓retQ,res,resAll,resOne,kill,apartOk,exp,injV,injB,pur,purs,purR,pursR,List.set_cons_zero,List.set_cons_succ,List.length_cons,List.length_nil,List.cons_append,List.nil_append,List.append_nil,List.append_assoc,List.length_append,List.reduceReplicate,Nat.reduceAdd,Nat.reduceMul,Nat.reduceSub,Nat.reduceEqDiff,Nat.reduceLT,Nat.zero_add,Nat.add_zero,Nat.mul_one,Int.reduceToNat,Int.toNat_natCast,Int.cast_ofNat_Int,Int.reduceLE,Int.reduceLT,Int.reduceEq,reduceCtorEq,↓reduceIte,Bool.true_eq_false,Bool.false_eq_true,Bool.not_true,Bool.not_false,true_and,and_true,and_assoc,qaj,sub1,qc8,qc7,qc9,List.length_replicate,Nat.le_refl,false_implies,true_implies,ne_eq,not_true_eq_false,not_false_eq_true,decide_true,decide_false,decide_eq_true_eq,decide_eq_false_iff_not,Bool.not_eq_true',Bool.not_eq_false']
    refine ⟨by omega, hlt, i + 1, hK _ (by omega) (by omega), Hd.same ?_⟩
    simp only [↓qax,↓qay,↓qa0,↓qaz,↓qcs,↓qbj,↓qa1,↓qcl,↓qb3,↓qci,↓qcb,↓qce,↓qcf,↓qb4,↓qcd,↓qcj,↓qb5,↓qcg,↓qch,↓qb6,↓qcc,↓qca,↓qb9,↓qb8,↓qb7,↓qa5,↓qbc,↓qa6,↓qbd,↓qa7,↓qbe,↓qa8,↓qbf,↓qa9,↓qbg,↓qba,↓qbh,↓qbb,↓qbi,↓qb2,↓qck,↓qfa,↓qco,↓qcp,↓qcq,↓qcn,↓qcm,↓qbm,↓qbn,↓qb0,↓qbv,↓qbq,↓qbu,↓qbz,↓qbw,↓qby,↓qbx,↓qbr,↓qbp,↓qb1,↓qbs,↓qbt,↓qbo,↓qex,↓qew,↓qe1,↓qe3,↓qe2,↓qev,↓qeu,↓qer,↓qes,↓qe0,↓qez,↓qey,qc5,↓qeo,↓qep,↓qet,↓qc4,↓qc2,↓qc3,↓qe5,↓qe6,↓qe7,↓qe4,qaa,↓qeq,↓qed,↓qee,↓qe9,↓qe8,↓qeg,↓qdj,↓qdr,↓qd8,↓qd9,↓qel,↓qem,↓qdn,↓qdo,↓qdq,↓qdp,↓qdw,↓qen,↓qdu,↓qeh,↓qdm,↓qeb,↓qei,↓qej,↓qek,↓qd0,↓qdz,↓qd1,↓qd2,↓qd4,↓qdy,↓qd5,↓qd7,↓qd6,↓qdk,↓qdl,↓qdx,↓qaw,↓qdv,↓qec,↓qef,↓qea,↓qd3,qav,List.drop_zero,Nat.sub_zero,qcy,qct,qcu,qdh,qat,qas,qaf,List.map_cons,List.map_nil,List.zip_cons_cons,List.zip_nil_right,List.zip_nil_left,qau,evs,evp,mkB,repB,blen,qae,qad,qac,qab,qc1,qc0,qdg,qdi,qde,qdf,qcx,qcz,qcv,qcw,↓qdc,↓qdb,↓qdd,↓qah,↓qag,↓qai,↓retQ,res,resAll,resOne,kill,apartOk,exp,injV,injB,pur,purs,purR,pursR,List.set_cons_zero,List.set_cons_succ,List.length_cons,List.length_nil,List.cons_append,List.nil_append,List.append_nil,List.append_assoc,List.length_append,List.reduceReplicate,Nat.reduceAdd,Nat.reduceMul,Nat.reduceSub,Nat.reduceEqDiff,Nat.reduceLT,Nat.zero_add,Nat.add_zero,Nat.mul_one,Int.reduceToNat,Int.toNat_natCast,Int.cast_ofNat_Int,Int.reduceLE,Int.reduceLT,Int.reduceEq,reduceCtorEq,↓reduceIte,Bool.true_eq_false,Bool.false_eq_true,Bool.not_true,Bool.not_false,true_and,and_true,and_assoc,qaj,sub1,qc8,qc7,qc9,List.length_replicate,Nat.le_refl,false_implies,true_implies,ne_eq,not_true_eq_false,not_false_eq_true,decide_true,decide_false,decide_eq_true_eq,decide_eq_false_iff_not,Bool.not_eq_true',Bool.not_eq_false']
  · have c : ¬(i : Int) < 22 := by omega
    have h22 : i = 22 := by omega
    subst h22
    have he : el 22 = List.replicate 22 11 := by simp [el]
    have q : pre14 [.s .u8 s11k, .s .u8 (List.replicate 22 11)] := ⟨_, _, rfl, fun x hx => by simp [s11k] at hx; omega, by decide, fun x hx => by rw [(List.mem_replicate.1 hx).2]; decide, by simp⟩
    simp only [s11k, List.reduceReplicate] at q
    have a1 := aw04
    simp only [s11k, List.reduceReplicate] at a1 he
    simp only [c,he,q,a1.1.1,a1.1.2,a1.2.1,a1.2.2,hmac_len,s14,F14,qda,qc6,qaj,List.length_cons,List.length_nil,Nat.reduceAdd,Nat.le_refl,Nat.reduceLeDiff,Nat.reduceLT,true_and,and_true,↓qax,↓qay,↓qa0,↓qaz,↓qcs,↓qbj,↓qa1,↓qcl,↓qb3,↓qci,↓qcb,↓qce,↓qcf,↓qb4,↓qcd,↓qcj,↓qb5,↓qcg,↓qch,↓qb6,↓qcc,↓qca,↓qb9,↓qb8,↓qb7,↓qa5,↓qbc,↓qa6,↓qbd,↓qa7,↓qbe,↓qa8,↓qbf,↓qa9,↓qbg,↓qba,↓qbh,↓qbb,↓qbi,↓qb2,↓qck,↓qfa,↓qco,↓qcp,↓qcq,↓qcn,↓qcm,↓qbm,↓qbn,↓qb0,↓qbv,↓qbq,↓qbu,↓qbz,↓qbw,↓qby,↓qbx,↓qbr,↓qbp,↓qb1,↓qbs,↓qbt,↓qbo,↓qex,↓qew,↓qe1,↓qe3,↓qe2,↓qev,↓qeu,↓qer,↓qes,↓qe0,↓qez,↓qey,qc5,↓qeo,↓qep,↓qet,↓qc4,↓qc2,↓qc3,↓qe5,↓qe6,↓qe7,↓qe4,qaa,↓qeq,↓qed,↓qee,↓qe9,↓qe8,↓qeg,↓qdj,↓qdr,↓qd8,↓qd9,↓qel,↓qem,↓qdn,↓qdo,↓qdq,↓qdp,↓qdw,↓qen,↓qdu,↓qeh,↓qdm,↓qeb,↓qei,↓qej,↓qek,↓qd0,↓qdz,↓qd1,↓qd2,↓qd4,↓qdy,↓qd5,↓qd7,↓qd6,↓qdk,↓qdl,↓qdx,↓qaw,↓qdv,↓qec,↓qef,↓qea,↓qd3,qav,List.drop_zero,Nat.sub_zero,qcy,qct,qcu,qdh,qat,qas,qaf,List.map_cons,List.map_nil,List.zip_cons_cons,List.zip_nil_right,List.zip_nil_left,qau,evs,evp,mkB,repB,blen,qae,qad,qac,qab,qc1,qc0,qdg,qdi,qde,qdf,qcx,qcz,qcv,qcw,↓qdc,↓qdb,↓qdd,↓qah,↓qag,↓qai,↓retQ,res,resAll,resOne,kill,apartOk,exp,injV,injB,pur,purs,purR,pursR,List.set_cons_zero,List.set_cons_succ,List.length_cons,List.length_nil,List.cons_append,List.nil_append,List.append_nil,List.append_assoc,List.length_append,List.reduceReplicate,Nat.reduceAdd,Nat.reduceMul,Nat.reduceSub,Nat.reduceEqDiff,Nat.reduceLT,Nat.zero_add,Nat.add_zero,Nat.mul_one,Int.reduceToNat,Int.toNat_natCast,Int.cast_ofNat_Int,Int.reduceLE,Int.reduceLT,Int.reduceEq,reduceCtorEq,↓reduceIte,Bool.true_eq_false,Bool.false_eq_true,Bool.not_true,Bool.not_false,true_and,and_true,and_assoc,qaj,sub1,qc8,qc7,qc9,List.length_replicate,Nat.le_refl,false_implies,true_implies,ne_eq,not_true_eq_false,not_false_eq_true,decide_true,decide_false,decide_eq_true_eq,decide_eq_false_iff_not,Bool.not_eq_true',Bool.not_eq_false']
    exact out_bool rfl
def pre4 (ds : List D) : Prop := ∃ (k b : List Int) (n cut : Int), ds = [.s .u8 k, .s .u8 b, .v (.int .u8 n), .v (.int .u8 cut)] ∧ Dig 256 k ∧ Dig 256 b ∧ (0 ≤ n ∧ n < 256) ∧ 0 ≤ cut ∧ cut < 256
theorem kpad_zeros {k : List Int} {z : Nat} (h : k.length + z ≤ 64) : kpad (k ++ List.replicate z 0) = kpad k := by
  have h1 : key0 k = k := by rw [key0, if_neg (by omega)]
  have h2 : key0 (k ++ List.replicate z 0) = k ++ List.replicate z 0 := by rw [key0, if_neg (by simp; omega)]
  rw [kpad, kpad, h1, h2, List.append_assoc, List.length_append, List.length_replicate, ← List.replicate_append_replicate.symm]
  congr 2
  omega
theorem hmac_zeros {k m : List Int} {z : Nat} (h : k.length + z ≤ 64) : hmac (k ++ List.replicate z 0) m = hmac k m := by rw [hmac, hmac, kpad_zeros h]
set_option maxHeartbeats 1000000 in
theorem lawMacLong : ∀ ds, pre4 ds → Does Tryd.prog gl 4 (injV ds 4) (gl ++ injB true ds) (out (4 + (injB true ds).length) (FT ds)) := by
  refine fdoesA (l := [(11, s11), (13, s13)]) mixed gl_plain rfl Tryd.func4 comp4 compR4 nt4 (by simp only [List.mem_cons, List.not_mem_nil, or_false, forall_eq_or_imp, forall_eq]; exact ⟨ok11, ok13⟩) fun ds ⟨k, b, n, cut, hd, hk, hb, hn, hc0, hc1⟩ hA => ?_
  subst hd
  simp only [s11, s13]
  have qa : preT [] := rfl
  have sk : sub k 0 k.length = k := qda rfl
  have sb : sub b 0 b.length = b := qda rfl
  by_cases h1 : 60 < k.length
  · have c : (60 : Int) < k.length := by omega
    simp only [ir4,rs4,gl,FT,qa,c,qda,qc6,qaj,List.length_cons,List.length_nil,Nat.reduceAdd,Nat.le_refl,Nat.reduceLeDiff,Nat.reduceLT,true_and,and_true,↓qax,↓qay,↓qa0,↓qaz,↓qcs,↓qbj,↓qa1,↓qcl,↓qb3,↓qci,↓qcb,↓qce,↓qcf,↓qb4,↓qcd,↓qcj,↓qb5,↓qcg,↓qch,↓qb6,↓qcc,↓qca,↓qb9,↓qb8,↓qb7,↓qa5,↓qbc,↓qa6,↓qbd,↓qa7,↓qbe,↓qa8,↓qbf,↓qa9,↓qbg,↓qba,↓qbh,↓qbb,↓qbi,↓qb2,↓qck,↓qfa,↓qco,↓qcp,↓qcq,↓qcn,↓qcm,↓qbm,↓qbn,↓qb0,↓qbv,↓qbq,↓qbu,↓qbz,↓qbw,↓qby,↓qbx,↓qbr,↓qbp,↓qb1,↓qbs,↓qbt,↓qbo,↓qex,↓qew,↓qe1,↓qe3,↓qe2,↓qev,↓qeu,↓qer,↓qes,↓qe0,↓qez,↓qey,qc5,↓qeo,↓qep,↓qet,↓qc4,↓qc2,↓qc3,↓qe5,↓qe6,↓qe7,↓qe4,qaa,↓qeq,↓qed,↓qee,↓qe9,↓qe8,↓qeg,↓qdj,↓qdr,↓qd8,↓qd9,↓qel,↓qem,↓qdn,↓qdo,↓qdq,↓qdp,↓qdw,↓qen,↓qdu,↓qeh,↓qdm,↓qeb,↓qei,↓qej,↓qek,↓qd0,↓qdz,↓qd1,↓qd2,↓qd4,↓qdy,↓qd5,↓qd7,↓qd6,↓qdk,↓qdl,↓qdx,↓qaw,↓qdv,↓qec,↓qef,↓qea,↓qd3,qav,List.drop_zero,Nat.sub_zero,qcy,qct,qcu,qdh,qat,qas,qaf,List.map_cons,List.map_nil,List.zip_cons_cons,List.zip_nil_right,List.zip_nil_left,qau,evs,evp,mkB,repB,blen,qae,qad,qac,qab,qc1,qc0,qdg,qdi,qde,qdf,qcx,qcz,qcv,qcw,↓qdc,↓qdb,↓qdd,↓qah,↓qag,↓qai,↓retQ,res,resAll,resOne,kill,apartOk,exp,injV,injB,pur,purs,purR,pursR,List.set_cons_zero,List.set_cons_succ,List.length_cons,List.length_nil,List.cons_append,List.nil_append,List.append_nil,List.append_assoc,List.length_append,List.reduceReplicate,Nat.reduceAdd,Nat.reduceMul,Nat.reduceSub,Nat.reduceEqDiff,Nat.reduceLT,Nat.zero_add,Nat.add_zero,Nat.mul_one,Int.reduceToNat,Int.toNat_natCast,Int.cast_ofNat_Int,Int.reduceLE,Int.reduceLT,Int.reduceEq,reduceCtorEq,↓reduceIte,Bool.true_eq_false,Bool.false_eq_true,Bool.not_true,Bool.not_false,true_and,and_true,and_assoc,qaj,sub1,qc8,qc7,qc9,List.length_replicate,Nat.le_refl,false_implies,true_implies,ne_eq,not_true_eq_false,not_false_eq_true,decide_true,decide_false,decide_eq_true_eq,decide_eq_false_iff_not,Bool.not_eq_true',Bool.not_eq_false']
    exact out_bool rfl
  · have c : ¬(60 : Int) < k.length := by omega
    by_cases h2 : 500 < b.length
    · have c2 : (500 : Int) < b.length := by omega
      simp only [ir4,rs4,gl,FT,qa,c,c2,qda,qc6,qaj,List.length_cons,List.length_nil,Nat.reduceAdd,Nat.le_refl,Nat.reduceLeDiff,Nat.reduceLT,true_and,and_true,↓qax,↓qay,↓qa0,↓qaz,↓qcs,↓qbj,↓qa1,↓qcl,↓qb3,↓qci,↓qcb,↓qce,↓qcf,↓qb4,↓qcd,↓qcj,↓qb5,↓qcg,↓qch,↓qb6,↓qcc,↓qca,↓qb9,↓qb8,↓qb7,↓qa5,↓qbc,↓qa6,↓qbd,↓qa7,↓qbe,↓qa8,↓qbf,↓qa9,↓qbg,↓qba,↓qbh,↓qbb,↓qbi,↓qb2,↓qck,↓qfa,↓qco,↓qcp,↓qcq,↓qcn,↓qcm,↓qbm,↓qbn,↓qb0,↓qbv,↓qbq,↓qbu,↓qbz,↓qbw,↓qby,↓qbx,↓qbr,↓qbp,↓qb1,↓qbs,↓qbt,↓qbo,↓qex,↓qew,↓qe1,↓qe3,↓qe2,↓qev,↓qeu,↓qer,↓qes,↓qe0,↓qez,↓qey,qc5,↓qeo,↓qep,↓qet,↓qc4,↓qc2,↓qc3,↓qe5,↓qe6,↓qe7,↓qe4,qaa,↓qeq,↓qed,↓qee,↓qe9,↓qe8,↓qeg,↓qdj,↓qdr,↓qd8,↓qd9,↓qel,↓qem,↓qdn,↓qdo,↓qdq,↓qdp,↓qdw,↓qen,↓qdu,↓qeh,↓qdm,↓qeb,↓qei,↓qej,↓qek,↓qd0,↓qdz,↓qd1,↓qd2,↓qd4,↓qdy,↓qd5,↓qd7,↓qd6,↓qdk,↓qdl,↓qdx,↓qaw,↓qdv,↓qec,↓qef,↓qea,↓qd3,qav,List.drop_zero,Nat.sub_zero,qcy,qct,qcu,qdh,qat,qas,qaf,List.map_cons,List.map_nil,List.zip_cons_cons,List.zip_nil_right,List.zip_nil_left,qau,evs,evp,mkB,repB,blen,qae,qad,qac,qab,qc1,qc0,qdg,qdi,qde,qdf,qcx,qcz,qcv,qcw,↓qdc,↓qdb,↓qdd,↓qah,↓qag,↓qai,↓retQ,res,resAll,resOne,kill,apartOk,exp,injV,injB,pur,purs,purR,pursR,List.set_cons_zero,List.set_cons_succ,List.length_cons,List.length_nil,List.cons_append,List.nil_append,List.append_nil,List.append_assoc,List.length_append,List.reduceReplicate,Nat.reduceAdd,Nat.reduceMul,Nat.reduceSub,Nat.reduceEqDiff,Nat.reduceLT,Nat.zero_add,Nat.add_zero,Nat.mul_one,Int.reduceToNat,Int.toNat_natCast,Int.cast_ofNat_Int,Int.reduceLE,Int.reduceLT,Int.reduceEq,reduceCtorEq,↓reduceIte,Bool.true_eq_false,Bool.false_eq_true,Bool.not_true,Bool.not_false,true_and,and_true,and_assoc,qaj,sub1,qc8,qc7,qc9,List.length_replicate,Nat.le_refl,false_implies,true_implies,ne_eq,not_true_eq_false,not_false_eq_true,decide_true,decide_false,decide_eq_true_eq,decide_eq_false_iff_not,Bool.not_eq_true',Bool.not_eq_false']
      exact out_bool rfl
    · have c2 : ¬(500 : Int) < b.length := by omega
      have w1 : Go.IntKind.i64.wrap n = n := by rw [wrap_i64]; omega
      have w2 : Go.IntKind.i64.wrap (65 - (k.length : Int)) = 65 - k.length := by rw [wrap_i64]; omega
      have w3 : Go.IntKind.i64.wrap cut = cut := by rw [wrap_i64]; omega
      have w4 : Go.IntKind.i64.wrap ((k.length : Int) + 1) = ((k.length + 1 : Nat) : Int) := by rw [wrap_i64]; omega
      have hne : ¬(65 - (k.length : Int) = 0) := by omega
      obtain ⟨z, hz, hz1⟩ : ∃ z : Nat, n.tmod (65 - k.length) = (z : Int) ∧ k.length + z ≤ 64 := by
        have h3 : n.tmod (65 - k.length) = n % (65 - k.length) := Int.tmod_eq_emod_of_nonneg hn.1
        have h4 := Int.emod_nonneg n hne
        have h5 := Int.emod_lt_of_pos n (b := 65 - (k.length : Int)) (by omega)
        exact ⟨(n % (65 - k.length)).toNat, by omega, by omega⟩
      obtain ⟨c3, hc3, hcb⟩ : ∃ c3 : Nat, min cut (b.length : Int) = c3 ∧ c3 ≤ b.length := ⟨(min cut (b.length : Int)).toNat, by omega, by omega⟩
      have s1 : sub (k ++ List.replicate z 0) 0 (k.length + z) = k ++ List.replicate z 0 := qda (by simp)
      have s2 : sub (k ++ [7, 7]) 0 k.length = k := by simp [sub]
      have g7 : getI (k ++ [7, 7]) k.length = 7 := by simp [getI]
      have hcut : sub b 0 c3 ++ sub b c3 (b.length - c3) = b := by
        simp only [sub, List.drop_zero]
        rw [List.take_of_length_le (l := b.drop c3) (by simp), List.take_append_drop]
      have l1 : (sub b 0 c3).length = c3 := by simp [sub]; omega
      have l2 : (sub b c3 (b.length - c3)).length = b.length - c3 := by simp [sub]
      have db : ∀ o n, Dig 256 (sub b o n) := fun o n x hx => hb x (List.mem_of_mem_drop (List.mem_of_mem_take hx))
      have q1 : pre13 [.s .u8 (k ++ List.replicate z 0), .v (.rcs 1 1 [.rsl 1 b.length .u8 b])] := ⟨_, _, rfl, hk.append (Dig.replicate _ (by decide)), by simp; omega, parts_cons (part_rsl hb) parts_nil, by simp [flat]; omega, by simp⟩
      have q2 : pre13 [.s .u8 k, .v (.rcs 1 2 [.rsl 1 c3 .u8 (sub b 0 c3), .rsl 1 (b.length - c3) .u8 (sub b c3 (b.length - c3))])] := ⟨_, _, rfl, hk, by omega, parts_cons (part_rsl' (db _ _) l1.symm) (parts_cons (part_rsl' (db _ _) l2.symm) parts_nil), by rw [flat_rsl, flat_rsl, flat_nil, List.append_nil, hcut]; omega, by simp⟩
      simp only [ir4,rs4,gl,FT,qa,c,c2,w1,w2,w3,w4,hne,hz,hc3,sk,sb,s1,s2,g7,q1,q2,flat_rsl,flat_nil,hcut,hmac_zeros hz1,hmac_len,Nat.sub_zero,s13,F13,qda,qc6,qaj,List.length_cons,List.length_nil,Nat.reduceAdd,Nat.le_refl,Nat.reduceLeDiff,Nat.reduceLT,true_and,and_true,↓qax,↓qay,↓qa0,↓qaz,↓qcs,↓qbj,↓qa1,↓qcl,↓qb3,↓qci,↓qcb,↓qce,↓qcf,↓qb4,↓qcd,↓qcj,↓qb5,↓qcg,↓qch,↓qb6,↓qcc,↓qca,↓qb9,↓qb8,↓qb7,↓qa5,↓qbc,↓qa6,↓qbd,↓qa7,↓qbe,↓qa8,↓qbf,↓qa9,↓qbg,↓qba,↓qbh,↓qbb,↓qbi,↓qb2,↓qck,↓qfa,↓qco,↓qcp,↓qcq,↓qcn,↓qcm,↓qbm,↓qbn,↓qb0,↓qbv,↓qbq,↓qbu,↓qbz,↓qbw,↓qby,↓qbx,↓qbr,↓qbp,↓qb1,↓qbs,↓qbt,↓qbo,↓qex,↓qew,↓qe1,↓qe3,↓qe2,↓qev,↓qeu,↓qer,↓qes,↓qe0,↓qez,↓qey,qc5,↓qeo,↓qep,↓qet,↓qc4,↓qc2,↓qc3,↓qe5,↓qe6,↓qe7,↓qe4,qaa,↓qeq,↓qed,↓qee,↓qe9,↓qe8,↓qeg,↓qdj,↓qdr,↓qd8,↓qd9,↓qel,↓qem,↓qdn,↓qdo,↓qdq,↓qdp,↓qdw,↓qen,↓qdu,↓qeh,↓qdm,↓qeb,↓qei,↓qej,↓qek,↓qd0,↓qdz,↓qd1,↓qd2,↓qd4,↓qdy,↓qd5,↓qd7,↓qd6,↓qdk,↓qdl,↓qdx,↓qaw,↓qdv,↓qec,↓qef,↓qea,↓qd3,qav,List.drop_zero,Nat.sub_zero,qcy,qct,qcu,qdh,qat,qas,qaf,List.map_cons,List.map_nil,List.zip_cons_cons,List.zip_nil_right,List.zip_nil_left,qau,evs,evp,mkB,repB,blen,qae,qad,qac,qab,qc1,qc0,qdg,qdi,qde,qdf,qcx,qcz,qcv,qcw,↓qdc,↓qdb,↓qdd,↓qah,↓qag,↓qai,↓retQ,res,resAll,resOne,kill,apartOk,exp,injV,injB,pur,purs,purR,pursR,List.set_cons_zero,List.set_cons_succ,List.length_cons,List.length_nil,List.cons_append,List.nil_append,List.append_nil,List.append_assoc,List.length_append,List.reduceReplicate,Nat.reduceAdd,Nat.reduceMul,Nat.reduceSub,Nat.reduceEqDiff,Nat.reduceLT,Nat.zero_add,Nat.add_zero,Nat.mul_one,Int.reduceToNat,Int.toNat_natCast,Int.cast_ofNat_Int,Int.reduceLE,Int.reduceLT,Int.reduceEq,reduceCtorEq,↓reduceIte,Bool.true_eq_false,Bool.false_eq_true,Bool.not_true,Bool.not_false,true_and,and_true,and_assoc,qaj,sub1,qc8,qc7,qc9,List.length_replicate,Nat.le_refl,false_implies,true_implies,ne_eq,not_true_eq_false,not_false_eq_true,decide_true,decide_false,decide_eq_true_eq,decide_eq_false_iff_not,Bool.not_eq_true',Bool.not_eq_false']
      repeat (refine And.intro (by omega) ?_)
      exact out_bool rfl
theorem exps_pre (s info : List Int) : ∀ (d i : Nat), (exps s info i).1 <+: (exps s info (i + d)).1
  | 0, i => List.prefix_refl _
  | d + 1, i => by
    have h := exps_pre s info d i
    have e : (exps s info (i + (d + 1))).1 = (exps s info (i + d)).1 ++ hmac s ((exps s info (i + d)).2 ++ (info ++ [((i + d + 1 : Nat) : Int)])) := by
      show (exps s info (i + d + 1)).1 = _
      simp only [exps]
    rw [e]
    exact h.trans (List.prefix_append _ _)
theorem expand_pre {s info : List Int} {p r : Nat} (h : p ≤ r) : sub (expand s info r) 0 p = expand s info p := by
  obtain ⟨d, hd⟩ : ∃ d, (r + 31) / 32 = (p + 31) / 32 + d := ⟨(r + 31) / 32 - (p + 31) / 32, by omega⟩
  obtain ⟨t, ht⟩ := exps_pre s info d ((p + 31) / 32)
  rw [sub, List.drop_zero, expand, expand, List.take_take, Nat.min_eq_left h, hd, ← ht, List.take_append_of_le_length (by rw [exps_len]; omega)]
def pre6 (ds : List D) : Prop := ∃ (s info : List Int) (n m : Int), ds = [.v (.ints .u8 s), .s .u8 info, .v (.int .u16 n), .v (.int .u16 m)] ∧ Dig 256 s ∧ s.length = 32 ∧ Dig 256 info ∧ (0 ≤ n ∧ n < 65536) ∧ 0 ≤ m ∧ m < 65536
set_option maxHeartbeats 1000000 in
theorem lawMacMore : ∀ ds, pre6 ds → Does Tryd.prog gl 6 (injV ds 4) (gl ++ injB true ds) (out (4 + (injB true ds).length) (FT ds)) := by
  refine fdoesA (l := [(11, s11), (15, s15)]) mixed gl_plain rfl Tryd.func6 comp6 compR6 nt6 (by simp only [List.mem_cons, List.not_mem_nil, or_false, forall_eq_or_imp, forall_eq]; exact ⟨ok11, ok15⟩) fun ds ⟨s, info, n, m, hd, hs, hsl, hi, hn, hm0, hm1⟩ hA => ?_
  subst hd
  simp only [s11, s15]
  have qa : preT [] := rfl
  have ss : sub s 0 32 = s := qda hsl
  have si : sub info 0 info.length = info := qda rfl
  by_cases h1 : 100 < info.length
  · have c : (100 : Int) < info.length := by omega
    simp only [ir6,rs6,gl,FT,qa,c,hsl,qda,qc6,qaj,List.length_cons,List.length_nil,Nat.reduceAdd,Nat.le_refl,Nat.reduceLeDiff,Nat.reduceLT,true_and,and_true,↓qax,↓qay,↓qa0,↓qaz,↓qcs,↓qbj,↓qa1,↓qcl,↓qb3,↓qci,↓qcb,↓qce,↓qcf,↓qb4,↓qcd,↓qcj,↓qb5,↓qcg,↓qch,↓qb6,↓qcc,↓qca,↓qb9,↓qb8,↓qb7,↓qa5,↓qbc,↓qa6,↓qbd,↓qa7,↓qbe,↓qa8,↓qbf,↓qa9,↓qbg,↓qba,↓qbh,↓qbb,↓qbi,↓qb2,↓qck,↓qfa,↓qco,↓qcp,↓qcq,↓qcn,↓qcm,↓qbm,↓qbn,↓qb0,↓qbv,↓qbq,↓qbu,↓qbz,↓qbw,↓qby,↓qbx,↓qbr,↓qbp,↓qb1,↓qbs,↓qbt,↓qbo,↓qex,↓qew,↓qe1,↓qe3,↓qe2,↓qev,↓qeu,↓qer,↓qes,↓qe0,↓qez,↓qey,qc5,↓qeo,↓qep,↓qet,↓qc4,↓qc2,↓qc3,↓qe5,↓qe6,↓qe7,↓qe4,qaa,↓qeq,↓qed,↓qee,↓qe9,↓qe8,↓qeg,↓qdj,↓qdr,↓qd8,↓qd9,↓qel,↓qem,↓qdn,↓qdo,↓qdq,↓qdp,↓qdw,↓qen,↓qdu,↓qeh,↓qdm,↓qeb,↓qei,↓qej,↓qek,↓qd0,↓qdz,↓qd1,↓qd2,↓qd4,↓qdy,↓qd5,↓qd7,↓qd6,↓qdk,↓qdl,↓qdx,↓qaw,↓qdv,↓qec,↓qef,↓qea,↓qd3,qav,List.drop_zero,Nat.sub_zero,qcy,qct,qcu,qdh,qat,qas,qaf,List.map_cons,List.map_nil,List.zip_cons_cons,List.zip_nil_right,List.zip_nil_left,qau,evs,evp,mkB,repB,blen,qae,qad,qac,qab,qc1,qc0,qdg,qdi,qde,qdf,qcx,qcz,qcv,qcw,↓qdc,↓qdb,↓qdd,↓qah,↓qag,↓qai,↓retQ,res,resAll,resOne,kill,apartOk,exp,injV,injB,pur,purs,purR,pursR,List.set_cons_zero,List.set_cons_succ,List.length_cons,List.length_nil,List.cons_append,List.nil_append,List.append_nil,List.append_assoc,List.length_append,List.reduceReplicate,Nat.reduceAdd,Nat.reduceMul,Nat.reduceSub,Nat.reduceEqDiff,Nat.reduceLT,Nat.zero_add,Nat.add_zero,Nat.mul_one,Int.reduceToNat,Int.toNat_natCast,Int.cast_ofNat_Int,Int.reduceLE,Int.reduceLT,Int.reduceEq,reduceCtorEq,↓reduceIte,Bool.true_eq_false,Bool.false_eq_true,Bool.not_true,Bool.not_false,true_and,and_true,and_assoc,qaj,sub1,qc8,qc7,qc9,List.length_replicate,Nat.le_refl,false_implies,true_implies,ne_eq,not_true_eq_false,not_false_eq_true,decide_true,decide_false,decide_eq_true_eq,decide_eq_false_iff_not,Bool.not_eq_true',Bool.not_eq_false']
    exact out_bool rfl
  · have c : ¬(100 : Int) < info.length := by omega
    obtain ⟨x, hx, hx1⟩ : ∃ x : Nat, (min n m).tmod 900 = x ∧ x < 900 := ⟨((min n m) % 900).toNat, by rw [Int.tmod_eq_emod_of_nonneg (by omega)]; omega, by omega⟩
    obtain ⟨y, hy, hy1⟩ : ∃ y : Nat, (max n m).tmod 900 = y ∧ y < 900 := ⟨((max n m) % 900).toNat, by rw [Int.tmod_eq_emod_of_nonneg (by omega)]; omega, by omega⟩
    have wx : Go.IntKind.i64.wrap (x : Int) = x := by rw [wrap_i64]; omega
    have wy : Go.IntKind.i64.wrap (y : Int) = y := by rw [wrap_i64]; omega
    obtain ⟨p, hp, hp1⟩ : ∃ p : Nat, min (x : Int) y = p ∧ p < 900 := ⟨min x y, by omega, by omega⟩
    obtain ⟨r, hr, hr1⟩ : ∃ r : Nat, max (x : Int) y = r ∧ r < 900 := ⟨max x y, by omega, by omega⟩
    have hpr : p ≤ r := by omega
    have c1 : ¬(p : Int) < 0 := by omega
    have c2 : ¬8160 < (p : Int) := by omega
    have c3 : ¬(r : Int) < 0 := by omega
    have c4 : ¬8160 < (r : Int) := by omega
    have q : ∀ n : Int, pre15 [.v (.ints .u8 s), .s .u8 info, .v (.int .i64 n)] := fun n => ⟨s, info, n, rfl, hs, hsl, hi, by omega⟩
    have sp : sub (expand s info p) 0 p = expand s info p := qda (expand_len _ _ _)
    simp only [ir6,rs6,gl,FT,qa,c,hsl,hx,hy,wx,wy,hp,hr,c1,c2,c3,c4,q,ss,si,sp,expand_len,expand_pre hpr,or_self,false_or,or_true,true_or,s15,F15,qda,qc6,qaj,List.length_cons,List.length_nil,Nat.reduceAdd,Nat.le_refl,Nat.reduceLeDiff,Nat.reduceLT,true_and,and_true,↓qax,↓qay,↓qa0,↓qaz,↓qcs,↓qbj,↓qa1,↓qcl,↓qb3,↓qci,↓qcb,↓qce,↓qcf,↓qb4,↓qcd,↓qcj,↓qb5,↓qcg,↓qch,↓qb6,↓qcc,↓qca,↓qb9,↓qb8,↓qb7,↓qa5,↓qbc,↓qa6,↓qbd,↓qa7,↓qbe,↓qa8,↓qbf,↓qa9,↓qbg,↓qba,↓qbh,↓qbb,↓qbi,↓qb2,↓qck,↓qfa,↓qco,↓qcp,↓qcq,↓qcn,↓qcm,↓qbm,↓qbn,↓qb0,↓qbv,↓qbq,↓qbu,↓qbz,↓qbw,↓qby,↓qbx,↓qbr,↓qbp,↓qb1,↓qbs,↓qbt,↓qbo,↓qex,↓qew,↓qe1,↓qe3,↓qe2,↓qev,↓qeu,↓qer,↓qes,↓qe0,↓qez,↓qey,qc5,↓qeo,↓qep,↓qet,↓qc4,↓qc2,↓qc3,↓qe5,↓qe6,↓qe7,↓qe4,qaa,↓qeq,↓qed,↓qee,↓qe9,↓qe8,↓qeg,↓qdj,↓qdr,↓qd8,↓qd9,↓qel,↓qem,↓qdn,↓qdo,↓qdq,↓qdp,↓qdw,↓qen,↓qdu,↓qeh,↓qdm,↓qeb,↓qei,↓qej,↓qek,↓qd0,↓qdz,↓qd1,↓qd2,↓qd4,↓qdy,↓qd5,↓qd7,↓qd6,↓qdk,↓qdl,↓qdx,↓qaw,↓qdv,↓qec,↓qef,↓qea,↓qd3,qav,List.drop_zero,Nat.sub_zero,qcy,qct,qcu,qdh,qat,qas,qaf,List.map_cons,List.map_nil,List.zip_cons_cons,List.zip_nil_right,List.zip_nil_left,qau,evs,evp,mkB,repB,blen,qae,qad,qac,qab,qc1,qc0,qdg,qdi,qde,qdf,qcx,qcz,qcv,qcw,↓qdc,↓qdb,↓qdd,↓qah,↓qag,↓qai,↓retQ,res,resAll,resOne,kill,apartOk,exp,injV,injB,pur,purs,purR,pursR,List.set_cons_zero,List.set_cons_succ,List.length_cons,List.length_nil,List.cons_append,List.nil_append,List.append_nil,List.append_assoc,List.length_append,List.reduceReplicate,Nat.reduceAdd,Nat.reduceMul,Nat.reduceSub,Nat.reduceEqDiff,Nat.reduceLT,Nat.zero_add,Nat.add_zero,Nat.mul_one,Int.reduceToNat,Int.toNat_natCast,Int.cast_ofNat_Int,Int.reduceLE,Int.reduceLT,Int.reduceEq,reduceCtorEq,↓reduceIte,Bool.true_eq_false,Bool.false_eq_true,Bool.not_true,Bool.not_false,true_and,and_true,and_assoc,qaj,sub1,qc8,qc7,qc9,List.length_replicate,Nat.le_refl,false_implies,true_implies,ne_eq,not_true_eq_false,not_false_eq_true,decide_true,decide_false,decide_eq_true_eq,decide_eq_false_iff_not,Bool.not_eq_true',Bool.not_eq_false']
    exact ⟨by omega, by omega, by omega, out_bool rfl⟩
end Am
