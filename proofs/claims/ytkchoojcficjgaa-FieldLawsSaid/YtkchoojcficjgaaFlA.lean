/-
Working texts: contracts of functions, and the numbers behind them.
-/
import Derived.Test.YtkchoojcficjgaaFlZ
import Derived.Test.YtkchoojcficjgaaIrB
set_option linter.unusedSimpArgs false
set_option linter.unusedVariables false
set_option linter.unusedSectionVars false
set_option linter.unusedSimpArgs false
set_option linter.unusedVariables false
set_option maxRecDepth 20000
namespace Am
open Go.Proofs
/-! ### Awake -/
def pre23 (ds : List D) : Prop := ds = []
def F23 : List D → Out
  | _ => .one (.v (.bool true))
def s23 : Summ := sData [] pre23 F23
def ffa (n : Nat) : List Int := itr (fun l i => l.set i 255) (List.replicate 32 0) n
theorem ok23 {g : List Blk} [Ge gl g] : SumOK Try.prog g 23 s23 ∧ SumAbs s23 := by
  refine fsumA (l := [(24, s24), (27, s27), (36, s36), (31, s31), (39, s39)]) mixed gl_plain rfl Try.func23 comp23 compR23 nt23 (by simp only [List.mem_cons, List.not_mem_nil, or_false, forall_eq_or_imp, forall_eq]; exact ⟨ok24, ok27, ok36, ok31, ok39⟩) fun ds hd hA => ?_
  rw [hd]
  simp only [s24, s27, s36, s31, s39]
  simp only [ir23,rs23,gl,F23,qda,qc6,qaj,List.length_cons,List.length_nil,Nat.reduceAdd,Nat.le_refl,Nat.reduceLeDiff,Nat.reduceLT,true_and,and_true,↓qax,↓qay,↓qa0,↓qaz,↓qcs,↓qbj,↓qa1,↓qcl,↓qb3,↓qci,↓qcb,↓qce,↓qcf,↓qb4,↓qcd,↓qcj,↓qb5,↓qcg,↓qch,↓qb6,↓qcc,↓qca,↓qb9,↓qb8,↓qb7,↓qa5,↓qbc,↓qa6,↓qbd,↓qa7,↓qbe,↓qa8,↓qbf,↓qa9,↓qbg,↓qba,↓qbh,↓qbb,↓qbi,↓qb2,↓qck,↓qfc,↓qco,↓qcp,↓qcq,↓qcn,↓qcm,↓qbm,↓qbn,↓qb0,↓qbv,↓qbq,↓qbu,↓qbz,↓qbw,↓qby,↓qbx,↓qbr,↓qbp,↓qb1,↓qbs,↓qbt,↓qbo,↓qez,↓qey,↓qe3,↓qe5,↓qe4,↓qex,↓qew,↓qet,↓qeu,↓qe2,↓qe1,↓qe0,qc5,↓qeq,↓qer,↓qev,↓qc4,↓qc2,↓qc3,↓qe7,↓qe8,↓qe9,↓qe6,qaa,↓qes,↓qef,↓qeg,↓qfb,↓qfa,↓qei,↓qdk,↓qds,↓qd9,↓qea,↓qen,↓qeo,↓qdo,↓qdp,↓qdr,↓qdq,↓qdx,↓qep,↓qdv,↓qej,↓qdn,↓qed,↓qek,↓qel,↓qem,↓qd1,↓qd0,↓qd2,↓qd3,↓qd5,↓qdz,↓qd6,↓qd8,↓qd7,↓qdl,↓qdm,↓qdy,↓qaw,↓qdw,↓qee,↓qec,↓qdj,↓qeh,↓qeb,↓qd4,qav,List.drop_zero,Nat.sub_zero,qcy,qct,qcu,qdh,qat,qas,qaf,List.map_cons,List.map_nil,List.zip_cons_cons,List.zip_nil_right,List.zip_nil_left,qau,evs,evp,mkB,repB,blen,qae,qad,qac,qab,qc1,qc0,qdg,qdi,qde,qdf,qcx,qcz,qcv,qcw,↓qdc,↓qdb,↓qdd,↓qah,↓qag,↓qai,↓retQ,res,resAll,resOne,kill,apartOk,exp,injV,injB,pur,purs,purR,pursR,List.set_cons_zero,List.set_cons_succ,List.length_cons,List.length_nil,List.cons_append,List.nil_append,List.append_nil,List.append_assoc,List.length_append,List.reduceReplicate,Nat.reduceAdd,Nat.reduceMul,Nat.reduceSub,Nat.reduceEqDiff,Nat.reduceLT,Nat.zero_add,Nat.add_zero,Nat.mul_one,Int.reduceToNat,Int.toNat_natCast,Int.cast_ofNat_Int,Int.reduceLE,Int.reduceLT,Int.reduceEq,reduceCtorEq,↓reduceIte,Bool.true_eq_false,Bool.false_eq_true,Bool.not_true,Bool.not_false,true_and,and_true,and_assoc,qaj,sub1,qc8,qc7,qc9,List.length_replicate,Nat.le_refl,false_implies,true_implies,ne_eq,not_true_eq_false,not_false_eq_true,decide_true,decide_false,decide_eq_true_eq,decide_eq_false_iff_not,Bool.not_eq_true',Bool.not_eq_false']
  refine awp_loopA (n := 23) hA [1, 3] (by decide +kernel) (fun i : Nat => [.ptr 4 0, .int .i64 i])
    (fun i => [.dead, .dead, .dead, .dead, .ints false .u8 (ffa i)]) (fun i => i ≤ 32) (fun i => 32 - i) 0 ?_ (by omega) ?_
  · refine Hd.same ?_
    simp only [ffa,itr,↓qax,↓qay,↓qa0,↓qaz,↓qcs,↓qbj,↓qa1,↓qcl,↓qb3,↓qci,↓qcb,↓qce,↓qcf,↓qb4,↓qcd,↓qcj,↓qb5,↓qcg,↓qch,↓qb6,↓qcc,↓qca,↓qb9,↓qb8,↓qb7,↓qa5,↓qbc,↓qa6,↓qbd,↓qa7,↓qbe,↓qa8,↓qbf,↓qa9,↓qbg,↓qba,↓qbh,↓qbb,↓qbi,↓qb2,↓qck,↓qfc,↓qco,↓qcp,↓qcq,↓qcn,↓qcm,↓qbm,↓qbn,↓qb0,↓qbv,↓qbq,↓qbu,↓qbz,↓qbw,↓qby,↓qbx,↓qbr,↓qbp,↓qb1,↓qbs,↓qbt,↓qbo,↓qez,↓qey,↓qe3,↓qe5,↓qe4,↓qex,↓qew,↓qet,↓qeu,↓qe2,↓qe1,↓qe0,qc5,↓qeq,↓qer,↓qev,↓qc4,↓qc2,↓qc3,↓qe7,↓qe8,↓qe9,↓qe6,qaa,↓qes,↓qef,↓qeg,↓qfb,↓qfa,↓qei,↓qdk,↓qds,↓qd9,↓qea,↓qen,↓qeo,↓qdo,↓qdp,↓qdr,↓qdq,↓qdx,↓qep,↓qdv,↓qej,↓qdn,↓qed,↓qek,↓qel,↓qem,↓qd1,↓qd0,↓qd2,↓qd3,↓qd5,↓qdz,↓qd6,↓qd8,↓qd7,↓qdl,↓qdm,↓qdy,↓qaw,↓qdw,↓qee,↓qec,↓qdj,↓qeh,↓qeb,↓qd4,qav,List.drop_zero,Nat.sub_zero,qcy,qct,qcu,qdh,qat,qas,qaf,List.map_cons,List.map_nil,List.zip_cons_cons,List.zip_nil_right,List.zip_nil_left,qau,evs,evp,mkB,repB,blen,qae,qad,qac,qab,qc1,qc0,qdg,qdi,qde,qdf,qcx,qcz,qcv,qcw,↓qdc,↓qdb,↓qdd,↓qah,↓qag,↓qai,↓retQ,res,resAll,resOne,kill,apartOk,exp,injV,injB,pur,purs,purR,pursR,List.set_cons_zero,List.set_cons_succ,List.length_cons,List.length_nil,List.cons_append,List.nil_append,List.append_nil,List.append_assoc,List.length_append,List.reduceReplicate,Nat.reduceAdd,Nat.reduceMul,Nat.reduceSub,Nat.reduceEqDiff,Nat.reduceLT,Nat.zero_add,Nat.add_zero,Nat.mul_one,Int.reduceToNat,Int.toNat_natCast,Int.cast_ofNat_Int,Int.reduceLE,Int.reduceLT,Int.reduceEq,reduceCtorEq,↓reduceIte,Bool.true_eq_false,Bool.false_eq_true,Bool.not_true,Bool.not_false,true_and,and_true,and_assoc,qaj,sub1,qc8,qc7,qc9,List.length_replicate,Nat.le_refl,false_implies,true_implies,ne_eq,not_true_eq_false,not_false_eq_true,decide_true,decide_false,decide_eq_true_eq,decide_eq_false_iff_not,Bool.not_eq_true',Bool.not_eq_false']
  intro i hi K hK
  have hl : (ffa i).length = 32 := itr_inv (fun _ (l : List Int) => l.length = 32) (by simp) (fun n l h => by simp [h]) i
  by_cases hlt : i < 32
  · have c1 : (i : Int) < 32 := by omega
    have wi : Go.IntKind.i64.wrap ((i : Int) + 1) = ((i + 1 : Nat) : Int) := by rw [wrap_i64]; omega
    have hs1 : ffa (i + 1) = (ffa i).set i 255 := rfl
    obtain ⟨w, hw⟩ : ∃ w, ffa i = w := ⟨_, rfl⟩
    rw [hw] at hl hs1
    rw [hw]
    simp only [c1,wi,hl,hlt,qda,qc6,qaj,List.length_cons,List.length_nil,Nat.reduceAdd,Nat.le_refl,Nat.reduceLeDiff,Nat.reduceLT,true_and,and_true,↓qax,↓qay,↓qa0,↓qaz,↓qcs,↓qbj,↓qa1,↓qcl,↓qb3,↓qci,↓qcb,↓qce,↓qcf,↓qb4,↓qcd,↓qcj,↓qb5,↓qcg,↓qch,↓qb6,↓qcc,↓qca,↓qb9,↓qb8,↓qb7,↓qa5,↓qbc,↓qa6,↓qbd,↓qa7,↓qbe,↓qa8,↓qbf,↓qa9,↓qbg,↓qba,↓qbh,↓qbb,↓qbi,↓qb2,↓qck,↓qfc,↓qco,↓qcp,↓qcq,↓qcn,↓qcm,↓qbm,↓qbn,↓qb0,↓qbv,↓qbq,↓qbu,↓qbz,↓qbw,↓qby,↓qbx,↓qbr,↓qbp,↓qb1,↓qbs,↓qbt,↓qbo,↓qez,↓qey,↓qe3,↓qe5,↓qe4,↓qex,↓qew,↓qet,↓qeu,↓qe2,↓qe1,↓qe0,qc5,↓qeq,↓qer,↓qev,↓qc4,↓qc2,↓qc3,↓qe7,↓qe8,↓qe9,↓qe6,qaa,↓qes,↓qef,↓qeg,↓qfb,↓qfa,↓qei,↓qdk,↓qds,↓qd9,↓qea,↓qen,↓qeo,↓qdo,↓qdp,↓qdr,↓qdq,↓qdx,↓qep,↓qdv,↓qej,↓qdn,↓qed,↓qek,↓qel,↓qem,↓qd1,↓qd0,↓qd2,↓qd3,↓qd5,↓qdz,↓qd6,↓qd8,↓qd7,↓qdl,↓qdm,↓qdy,↓qaw,↓qdw,↓qee,↓qec,↓qdj,↓qeh,↓qeb,↓qd4,qav,List.drop_zero,Nat.sub_zero,qcy,qct,qcu,qdh,qat,qas,qaf,List.map_cons,List.map_nil,List.zip_cons_cons,List.zip_nil_right,List.zip_nil_left,qau,evs,evp,mkB,repB,blen,qae,qad,qac,qab,qc1,qc0,qdg,qdi,qde,qdf,qcx,qcz,qcv,qcw,↓qdc,↓qdb,↓qdd,↓qah,↓qag,↓qai,↓retQ,res,resAll,resOne,kill,apartOk,exp,injV,injB,pur,purs,purR,pursR,List.set_cons_zero,List.set_cons_succ,List.length_cons,List.length_nil,List.cons_append,List.nil_append,List.append_nil,List.append_assoc,List.length_append,List.reduceReplicate,Nat.reduceAdd,Nat.reduceMul,Nat.reduceSub,Nat.reduceEqDiff,Nat.reduceLT,Nat.zero_add,Nat.add_zero,Nat.mul_one,Int.reduceToNat,Int.toNat_natCast,Int.cast_ofNat_Int,Int.reduceLE,Int.reduceLT,Int.reduceEq,reduceCtorEq,↓reduceIte,Bool.true_eq_false,Bool.false_eq_true,Bool.not_true,Bool.not_false,true_and,and_true,and_assoc,qaj,sub1,qc8,qc7,qc9,List.length_replicate,Nat.le_refl,false_implies,true_implies,ne_eq,not_true_eq_false,not_false_eq_true,decide_true,decide_false,decide_eq_true_eq,decide_eq_false_iff_not,Bool.not_eq_true',Bool.not_eq_false']
    repeat (refine And.intro (by omega) ?_)
    refine ⟨i + 1, hK _ (by omega) (by omega), Hd.same ?_⟩
    simp only [hs1,↓qax,↓qay,↓qa0,↓qaz,↓qcs,↓qbj,↓qa1,↓qcl,↓qb3,↓qci,↓qcb,↓qce,↓qcf,↓qb4,↓qcd,↓qcj,↓qb5,↓qcg,↓qch,↓qb6,↓qcc,↓qca,↓qb9,↓qb8,↓qb7,↓qa5,↓qbc,↓qa6,↓qbd,↓qa7,↓qbe,↓qa8,↓qbf,↓qa9,↓qbg,↓qba,↓qbh,↓qbb,↓qbi,↓qb2,↓qck,↓qfc,↓qco,↓qcp,↓qcq,↓qcn,↓qcm,↓qbm,↓qbn,↓qb0,↓qbv,↓qbq,↓qbu,↓qbz,↓qbw,↓qby,↓qbx,↓qbr,↓qbp,↓qb1,↓qbs,↓qbt,↓qbo,↓qez,↓qey,↓qe3,↓qe5,↓qe4,↓qex,↓qew,↓qet,↓qeu,↓qe2,↓qe1,↓qe0,qc5,↓qeq,↓qer,↓qev,↓qc4,↓qc2,↓qc3,↓qe7,↓qe8,↓qe9,↓qe6,qaa,↓qes,↓qef,↓qeg,↓qfb,↓qfa,↓qei,↓qdk,↓qds,↓qd9,↓qea,↓qen,↓qeo,↓qdo,↓qdp,↓qdr,↓qdq,↓qdx,↓qep,↓qdv,↓qej,↓qdn,↓qed,↓qek,↓qel,↓qem,↓qd1,↓qd0,↓qd2,↓qd3,↓qd5,↓qdz,↓qd6,↓qd8,↓qd7,↓qdl,↓qdm,↓qdy,↓qaw,↓qdw,↓qee,↓qec,↓qdj,↓qeh,↓qeb,↓qd4,qav,List.drop_zero,Nat.sub_zero,qcy,qct,qcu,qdh,qat,qas,qaf,List.map_cons,List.map_nil,List.zip_cons_cons,List.zip_nil_right,List.zip_nil_left,qau,evs,evp,mkB,repB,blen,qae,qad,qac,qab,qc1,qc0,qdg,qdi,qde,qdf,qcx,qcz,qcv,qcw,↓qdc,↓qdb,↓qdd,↓qah,↓qag,↓qai,↓retQ,res,resAll,resOne,kill,apartOk,exp,injV,injB,pur,purs,purR,pursR,List.set_cons_zero,List.set_cons_succ,List.length_cons,List.length_nil,List.cons_append,List.nil_append,List.append_nil,List.append_assoc,List.length_append,List.reduceReplicate,Nat.reduceAdd,Nat.reduceMul,Nat.reduceSub,Nat.reduceEqDiff,Nat.reduceLT,Nat.zero_add,Nat.add_zero,Nat.mul_one,Int.reduceToNat,Int.toNat_natCast,Int.cast_ofNat_Int,Int.reduceLE,Int.reduceLT,Int.reduceEq,reduceCtorEq,↓reduceIte,Bool.true_eq_false,Bool.false_eq_true,Bool.not_true,Bool.not_false,true_and,and_true,and_assoc,qaj,sub1,qc8,qc7,qc9,List.length_replicate,Nat.le_refl,false_implies,true_implies,ne_eq,not_true_eq_false,not_false_eq_true,decide_true,decide_false,decide_eq_true_eq,decide_eq_false_iff_not,Bool.not_eq_true',Bool.not_eq_false']
  obtain rfl : i = 32 := by omega
  have c1 : ¬((32 : Nat) : Int) < 32 := by omega
  have e0 : ffa 32 = List.replicate 32 255 := by decide
  obtain ⟨k, hk⟩ : ∃ k, ffa 32 = k := ⟨_, rfl⟩
  rw [hk] at hl e0
  rw [hk]
  have hkey : Key k := ⟨hl, by rw [e0]; unfold Dig; decide⟩
  have hkv : kv k = 18 := by rw [e0]; decide
  have sk : sub k 0 32 = k := qda hl
  obtain ⟨X, hX⟩ : ∃ X, dig 2251799813685248 5 (val 256 k) = X := ⟨_, rfl⟩
  have hXe : El X (kv k) := by rw [← hX]; exact xo_el hkey
  have b1 : bytesF X = dig 256 32 18 := by rw [hXe.bytes, hkv]
  have p1 := hkey.p1
  have p2 := hXe.p1
  have e2 : El [2, 0, 0, 0, 0] 2 := small_el (by decide) (by decide)
  have q2 : preU32 [.v (.int .u32 2)] := ⟨2, rfl, by decide, by decide⟩
  have p3 := e2.p1
  have hI := inv_el e2
  obtain ⟨I, hI'⟩ : ∃ I, invF [2, 0, 0, 0, 0] = I := ⟨_, rfl⟩
  rw [hI'] at hI
  have p4 := hI.p2 e2
  have hM := mul_el hI e2
  obtain ⟨M, hM'⟩ : ∃ M, mulF I [2, 0, 0, 0, 0] = M := ⟨_, rfl⟩
  rw [hM'] at hM
  have p5 := hM.p1
  have h1 : pw 2 (Pp - 2) * 2 % Pp = 1 := by decide +kernel
  have b2 : bytesF M = dig 256 32 1 := by rw [hM.bytes, h1]
  have l18 : dig 256 32 18 = [18, 0, 0, 0, 0, 0, 0, 0, 0, 0, 0, 0, 0, 0, 0, 0, 0, 0, 0, 0, 0, 0, 0, 0, 0, 0, 0, 0, 0, 0, 0, 0] := by decide
  have l1 : dig 256 32 1 = [1, 0, 0, 0, 0, 0, 0, 0, 0, 0, 0, 0, 0, 0, 0, 0, 0, 0, 0, 0, 0, 0, 0, 0, 0, 0, 0, 0, 0, 0, 0, 0] := by decide
  rw [l18] at b1
  rw [l1] at b2
  simp only [s24, s27, s36, s31, s39]
  simp only [c1,hl,sk,p1,hX,p2,b1,q2,p3,hI',p4,hM',p5,b2,eq_self,s24,s27,s36,s31,s39,F24,F27,F36,F31,F39,qda,qc6,qaj,List.length_cons,List.length_nil,Nat.reduceAdd,Nat.le_refl,Nat.reduceLeDiff,Nat.reduceLT,true_and,and_true,↓qax,↓qay,↓qa0,↓qaz,↓qcs,↓qbj,↓qa1,↓qcl,↓qb3,↓qci,↓qcb,↓qce,↓qcf,↓qb4,↓qcd,↓qcj,↓qb5,↓qcg,↓qch,↓qb6,↓qcc,↓qca,↓qb9,↓qb8,↓qb7,↓qa5,↓qbc,↓qa6,↓qbd,↓qa7,↓qbe,↓qa8,↓qbf,↓qa9,↓qbg,↓qba,↓qbh,↓qbb,↓qbi,↓qb2,↓qck,↓qfc,↓qco,↓qcp,↓qcq,↓qcn,↓qcm,↓qbm,↓qbn,↓qb0,↓qbv,↓qbq,↓qbu,↓qbz,↓qbw,↓qby,↓qbx,↓qbr,↓qbp,↓qb1,↓qbs,↓qbt,↓qbo,↓qez,↓qey,↓qe3,↓qe5,↓qe4,↓qex,↓qew,↓qet,↓qeu,↓qe2,↓qe1,↓qe0,qc5,↓qeq,↓qer,↓qev,↓qc4,↓qc2,↓qc3,↓qe7,↓qe8,↓qe9,↓qe6,qaa,↓qes,↓qef,↓qeg,↓qfb,↓qfa,↓qei,↓qdk,↓qds,↓qd9,↓qea,↓qen,↓qeo,↓qdo,↓qdp,↓qdr,↓qdq,↓qdx,↓qep,↓qdv,↓qej,↓qdn,↓qed,↓qek,↓qel,↓qem,↓qd1,↓qd0,↓qd2,↓qd3,↓qd5,↓qdz,↓qd6,↓qd8,↓qd7,↓qdl,↓qdm,↓qdy,↓qaw,↓qdw,↓qee,↓qec,↓qdj,↓qeh,↓qeb,↓qd4,qav,List.drop_zero,Nat.sub_zero,qcy,qct,qcu,qdh,qat,qas,qaf,List.map_cons,List.map_nil,List.zip_cons_cons,List.zip_nil_right,List.zip_nil_left,qau,evs,evp,mkB,repB,blen,qae,qad,qac,qab,qc1,qc0,qdg,qdi,qde,qdf,qcx,qcz,qcv,qcw,↓qdc,↓qdb,↓qdd,↓qah,↓qag,↓qai,↓retQ,res,resAll,resOne,kill,apartOk,exp,injV,injB,pur,purs,purR,pursR,List.set_cons_zero,List.set_cons_succ,List.length_cons,List.length_nil,List.cons_append,List.nil_append,List.append_nil,List.append_assoc,List.length_append,List.reduceReplicate,Nat.reduceAdd,Nat.reduceMul,Nat.reduceSub,Nat.reduceEqDiff,Nat.reduceLT,Nat.zero_add,Nat.add_zero,Nat.mul_one,Int.reduceToNat,Int.toNat_natCast,Int.cast_ofNat_Int,Int.reduceLE,Int.reduceLT,Int.reduceEq,reduceCtorEq,↓reduceIte,Bool.true_eq_false,Bool.false_eq_true,Bool.not_true,Bool.not_false,true_and,and_true,and_assoc,qaj,sub1,qc8,qc7,qc9,List.length_replicate,Nat.le_refl,false_implies,true_implies,ne_eq,not_true_eq_false,not_false_eq_true,decide_true,decide_false,decide_eq_true_eq,decide_eq_false_iff_not,Bool.not_eq_true',Bool.not_eq_false']
  repeat (refine And.intro (by omega) ?_)
  simp only [out, outs, out1, pur, and_self]
end Am
set_option linter.unusedSimpArgs false
set_option linter.unusedVariables false
set_option maxRecDepth 20000
namespace Am
open Go.Proofs
/-! ### FieldOf -/
def preOf (ds : List D) : Prop := ∃ (b : List Int) (n : Int), ds = [.v (.ints .u8 b), .v (.int .u32 n)] ∧ Key b ∧ 0 ≤ n ∧ n < 4294967296
theorem lawFieldOf : ∀ ds, preOf ds → Does Try.prog gl 5 (injV ds 4) (gl ++ injB true ds) (out (4 + (injB true ds).length) (FTrue ds)) := by
  refine fdoesA (l := [(23, s23), (24, s24), (27, s27), (25, s25), (30, s30), (36, s36), (37, s37), (33, s33), (38, s38)]) mixed gl_plain rfl Try.func5 comp5 compR5 nt5 (by simp only [List.mem_cons, List.not_mem_nil, or_false, forall_eq_or_imp, forall_eq]; exact ⟨ok23, ok24, ok27, ok25, ok30, ok36, ok37, ok33, ok38⟩) fun ds ⟨b, n, hd, hb, hn0, hn1⟩ hA => ?_
  subst hd
  have hbl := hb.1
  have sb : sub b 0 32 = b := qda hbl
  have hX := xo_el hb
  have hp := plc_lg hb
  obtain ⟨X, hXX⟩ : ∃ X, xo b = X := ⟨_, rfl⟩
  obtain ⟨p, hpp⟩ : ∃ p, plc b = p := ⟨_, rfl⟩
  have hXX' : dig 2251799813685248 5 (val 256 b) = X := hXX
  rw [hXX] at hX; rw [hpp] at hp
  have k1 := hb.p1
  have k2 := hb.p
  have q1 := hX.p1
  have b1 : bytesF X = dig 256 32 (val 65536 p) := by rw [hX.bytes, hp.is]
  have q2 := hp.pk
  have u1 : preU32 [.v (.int .u32 n)] := ⟨n, rfl, hn0, hn1⟩
  have u2 : pre37 [.v (.int .u32 n)] := ⟨n, rfl, hn0, hn1⟩
  have hs := small_el hn0 hn1
  have hm := num_lg hn0 hn1
  have q3 := hs.p1
  have q4 := hm.pk
  have b2 : bytesF [n, 0, 0, 0, 0] = dig 256 32 (val 65536 (dig 65536 2 n)) := by rw [hs.bytes, hm.is]
  have hz : El [0, 0, 0, 0, 0] 0 := small_el (by decide) (by decide)
  have q5 := hz.p1
  have b3 : bytesF [0, 0, 0, 0, 0] = List.replicate 32 0 := by rw [hz.bytes, dig_zero]
  have q6 := hz.p2 hs
  have ha := add_el hz hs
  have ha2 : (0 + n) % Pp = n := by rw [Int.zero_add]; exact Int.emod_eq_of_lt hn0 hm.hi
  rw [ha2] at ha
  obtain ⟨A, hA'⟩ : ∃ A, addF [0, 0, 0, 0, 0] [n, 0, 0, 0, 0] = A := ⟨_, rfl⟩
  rw [hA'] at ha
  have q7 := ha.p1
  have b4 : bytesF A = dig 256 32 (val 65536 (dig 65536 2 n)) := by rw [ha.bytes, hm.is]
  have pA : pre23 [] := rfl
  have r32 : List.replicate 32 (0 : Int) = [0, 0, 0, 0, 0, 0, 0, 0, 0, 0, 0, 0, 0, 0, 0, 0, 0, 0, 0, 0, 0, 0, 0, 0, 0, 0, 0, 0, 0, 0, 0, 0] := rfl
  rw [r32] at b3
  have d2 : decide (bytesF [0, 0, 0, 0, 0] = List.replicate 32 0) = true := by rw [b3]; rfl
  simp only [s23, s24, s27, s25, s30, s36, s37, s33, s38]
  simp only [ir5,rs5,gl,FTrue,hbl,sb,hXX',hpp,k1,k2,q1,b1,q2,u1,u2,q3,q4,b2,q5,d2,b3,q6,hA',q7,b4,pA,eq_self,s23,s24,s27,s25,s30,s36,s37,s33,s38,F23,F24,F27,F25,F30,F36,F37,F33,F38,qda,qc6,qaj,List.length_cons,List.length_nil,Nat.reduceAdd,Nat.le_refl,Nat.reduceLeDiff,Nat.reduceLT,true_and,and_true,↓qax,↓qay,↓qa0,↓qaz,↓qcs,↓qbj,↓qa1,↓qcl,↓qb3,↓qci,↓qcb,↓qce,↓qcf,↓qb4,↓qcd,↓qcj,↓qb5,↓qcg,↓qch,↓qb6,↓qcc,↓qca,↓qb9,↓qb8,↓qb7,↓qa5,↓qbc,↓qa6,↓qbd,↓qa7,↓qbe,↓qa8,↓qbf,↓qa9,↓qbg,↓qba,↓qbh,↓qbb,↓qbi,↓qb2,↓qck,↓qfc,↓qco,↓qcp,↓qcq,↓qcn,↓qcm,↓qbm,↓qbn,↓qb0,↓qbv,↓qbq,↓qbu,↓qbz,↓qbw,↓qby,↓qbx,↓qbr,↓qbp,↓qb1,↓qbs,↓qbt,↓qbo,↓qez,↓qey,↓qe3,↓qe5,↓qe4,↓qex,↓qew,↓qet,↓qeu,↓qe2,↓qe1,↓qe0,qc5,↓qeq,↓qer,↓qev,↓qc4,↓qc2,↓qc3,↓qe7,↓qe8,↓qe9,↓qe6,qaa,↓qes,↓qef,↓qeg,↓qfb,↓qfa,↓qei,↓qdk,↓qds,↓qd9,↓qea,↓qen,↓qeo,↓qdo,↓qdp,↓qdr,↓qdq,↓qdx,↓qep,↓qdv,↓qej,↓qdn,↓qed,↓qek,↓qel,↓qem,↓qd1,↓qd0,↓qd2,↓qd3,↓qd5,↓qdz,↓qd6,↓qd8,↓qd7,↓qdl,↓qdm,↓qdy,↓qaw,↓qdw,↓qee,↓qec,↓qdj,↓qeh,↓qeb,↓qd4,qav,List.drop_zero,Nat.sub_zero,qcy,qct,qcu,qdh,qat,qas,qaf,List.map_cons,List.map_nil,List.zip_cons_cons,List.zip_nil_right,List.zip_nil_left,qau,evs,evp,mkB,repB,blen,qae,qad,qac,qab,qc1,qc0,qdg,qdi,qde,qdf,qcx,qcz,qcv,qcw,↓qdc,↓qdb,↓qdd,↓qah,↓qag,↓qai,↓retQ,res,resAll,resOne,kill,apartOk,exp,injV,injB,pur,purs,purR,pursR,List.set_cons_zero,List.set_cons_succ,List.length_cons,List.length_nil,List.cons_append,List.nil_append,List.append_nil,List.append_assoc,List.length_append,List.reduceReplicate,Nat.reduceAdd,Nat.reduceMul,Nat.reduceSub,Nat.reduceEqDiff,Nat.reduceLT,Nat.zero_add,Nat.add_zero,Nat.mul_one,Int.reduceToNat,Int.toNat_natCast,Int.cast_ofNat_Int,Int.reduceLE,Int.reduceLT,Int.reduceEq,reduceCtorEq,↓reduceIte,Bool.true_eq_false,Bool.false_eq_true,Bool.not_true,Bool.not_false,true_and,and_true,and_assoc,qaj,sub1,qc8,qc7,qc9,List.length_replicate,Nat.le_refl,false_implies,true_implies,ne_eq,not_true_eq_false,not_false_eq_true,decide_true,decide_false,decide_eq_true_eq,decide_eq_false_iff_not,Bool.not_eq_true',Bool.not_eq_false']
  repeat (refine And.intro (by omega) ?_)
  simp only [out, outs, out1, pur, and_self]
/-! ### FieldRuns -/
theorem lawFieldRuns : ∀ ds, preKK ds → Does Try.prog gl 9 (injV ds 4) (gl ++ injB true ds) (out (4 + (injB true ds).length) (FTrue ds)) := by
  refine fdoesA (l := [(23, s23), (24, s24), (25, s25), (37, s37), (38, s38), (27, s27), (41, s41), (30, s30), (42, s42), (43, s43), (45, s45), (39, s39), (44, s44)]) mixed gl_plain rfl Try.func9 comp9 compR9 nt9 (by simp only [List.mem_cons, List.not_mem_nil, or_false, forall_eq_or_imp, forall_eq]; exact ⟨ok23, ok24, ok25, ok37, ok38, ok27, ok41, ok30, ok42, ok43, ok45, ok39, ok44⟩) fun ds ⟨a, b, hd, ha, hb⟩ hA => ?_
  subst hd
  have hal := ha.1
  have hbl := hb.1
  have sa : sub a 0 32 = a := qda hal
  have sb : sub b 0 32 = b := qda hbl
  have hX := xo_el ha
  have hY := xo_el hb
  have hp := plc_lg ha
  have hq := plc_lg hb
  obtain ⟨X, hXX⟩ : ∃ X, xo a = X := ⟨_, rfl⟩
  obtain ⟨Y, hYY⟩ : ∃ Y, xo b = Y := ⟨_, rfl⟩
  obtain ⟨p, hpp⟩ : ∃ p, plc a = p := ⟨_, rfl⟩
  obtain ⟨q, hqq⟩ : ∃ q, plc b = q := ⟨_, rfl⟩
  have hXX' : dig 2251799813685248 5 (val 256 a) = X := hXX
  have hYY' : dig 2251799813685248 5 (val 256 b) = Y := hYY
  rw [hXX] at hX; rw [hpp] at hp; rw [hYY] at hY; rw [hqq] at hq
  have hXl := hX.len
  have hYl := hY.len
  have sX : sub X 0 5 = X := qda hXl
  have sY : sub Y 0 5 = Y := qda hYl
  have spX : spl [0, 0, 0, 0, 0] 0 X = X := qc6 (by simp [hXl])
  have spY : spl [0, 0, 0, 0, 0] 0 Y = Y := qc6 (by simp [hYl])
  have k1 := ha.p1
  have k2 := ha.p
  have k3 := hb.p1
  have k4 := hb.p
  have hz : Lg (dig 65536 2 0) 0 := num_lg (by decide) (by decide)
  have u2 : pre37 [.v (.int .u32 0)] := ⟨0, rfl, by decide, by decide⟩
  obtain ⟨z, hzz⟩ : ∃ z, dig 65536 2 0 = z := ⟨_, rfl⟩
  rw [hzz] at hz
  have hzl : z.length = 2 := by rw [← hzz, qaj]
  have sz : sub z 0 2 = z := qda hzl
  have q1 := hX.p2 hY
  have q2 := hX.p1
  have q3 := hp.p2 hq
  have q4 := hz.p2 hp
  have e1 := add_el hX hY
  have e2 := sub_el hX hY
  have e3 := neg_el hX
  have e4 := mul_el hX hY
  have f1 := radd_lg hp hq
  have f2 := rsub_lg hp hq
  have f3 := rsub_lg hz hp
  rw [Int.zero_sub] at f3
  have f4 := rmul_lg hp hq
  have b1 : bytesF (addF X Y) = dig 256 32 (val 65536 (radd p q)) := by rw [e1.bytes, f1.is]
  have b2 : bytesF (subF X Y) = dig 256 32 (val 65536 (rsub p q)) := by rw [e2.bytes, f2.is]
  have b3 : bytesF (subF [0, 0, 0, 0, 0] X) = dig 256 32 (val 65536 (rsub z p)) := by rw [e3.bytes, f3.is]
  have b4 : bytesF (mulF X Y) = dig 256 32 (val 65536 (rmul p q)) := by rw [e4.bytes, f4.is]
  have p1 := e1.p1
  have p2 := e2.p1
  have p3 := e3.p1
  have p4 := e4.p1
  have g1 := f1.pk
  have g2 := f2.pk
  have g3 := f3.pk
  have g4 := f4.pk
  have pA : pre23 [] := rfl
  simp only [s23, s24, s25, s37, s38, s27, s41, s30, s42, s43, s45, s39, s44]
  simp only [ir9,rs9,gl,FTrue,hal,hbl,sa,sb,hXX',hYY',hpp,hqq,hXl,hYl,sX,sY,spX,spY,k1,k2,k3,k4,u2,hzz,hzl,sz,q1,q2,q3,q4,b1,b2,b3,b4,p1,p2,p3,p4,g1,g2,g3,g4,pA,eq_self,s23,s24,s25,s37,s38,s27,s41,s30,s42,s43,s45,s39,s44,F23,F24,F25,F37,F38,F27,F41,F30,F42,F43,F45,F39,F44,qda,qc6,qaj,List.length_cons,List.length_nil,Nat.reduceAdd,Nat.le_refl,Nat.reduceLeDiff,Nat.reduceLT,true_and,and_true,↓qax,↓qay,↓qa0,↓qaz,↓qcs,↓qbj,↓qa1,↓qcl,↓qb3,↓qci,↓qcb,↓qce,↓qcf,↓qb4,↓qcd,↓qcj,↓qb5,↓qcg,↓qch,↓qb6,↓qcc,↓qca,↓qb9,↓qb8,↓qb7,↓qa5,↓qbc,↓qa6,↓qbd,↓qa7,↓qbe,↓qa8,↓qbf,↓qa9,↓qbg,↓qba,↓qbh,↓qbb,↓qbi,↓qb2,↓qck,↓qfc,↓qco,↓qcp,↓qcq,↓qcn,↓qcm,↓qbm,↓qbn,↓qb0,↓qbv,↓qbq,↓qbu,↓qbz,↓qbw,↓qby,↓qbx,↓qbr,↓qbp,↓qb1,↓qbs,↓qbt,↓qbo,↓qez,↓qey,↓qe3,↓qe5,↓qe4,↓qex,↓qew,↓qet,↓qeu,↓qe2,↓qe1,↓qe0,qc5,↓qeq,↓qer,↓qev,↓qc4,↓qc2,↓qc3,↓qe7,↓qe8,↓qe9,↓qe6,qaa,↓qes,↓qef,↓qeg,↓qfb,↓qfa,↓qei,↓qdk,↓qds,↓qd9,↓qea,↓qen,↓qeo,↓qdo,↓qdp,↓qdr,↓qdq,↓qdx,↓qep,↓qdv,↓qej,↓qdn,↓qed,↓qek,↓qel,↓qem,↓qd1,↓qd0,↓qd2,↓qd3,↓qd5,↓qdz,↓qd6,↓qd8,↓qd7,↓qdl,↓qdm,↓qdy,↓qaw,↓qdw,↓qee,↓qec,↓qdj,↓qeh,↓qeb,↓qd4,qav,List.drop_zero,Nat.sub_zero,qcy,qct,qcu,qdh,qat,qas,qaf,List.map_cons,List.map_nil,List.zip_cons_cons,List.zip_nil_right,List.zip_nil_left,qau,evs,evp,mkB,repB,blen,qae,qad,qac,qab,qc1,qc0,qdg,qdi,qde,qdf,qcx,qcz,qcv,qcw,↓qdc,↓qdb,↓qdd,↓qah,↓qag,↓qai,↓retQ,res,resAll,resOne,kill,apartOk,exp,injV,injB,pur,purs,purR,pursR,List.set_cons_zero,List.set_cons_succ,List.length_cons,List.length_nil,List.cons_append,List.nil_append,List.append_nil,List.append_assoc,List.length_append,List.reduceReplicate,Nat.reduceAdd,Nat.reduceMul,Nat.reduceSub,Nat.reduceEqDiff,Nat.reduceLT,Nat.zero_add,Nat.add_zero,Nat.mul_one,Int.reduceToNat,Int.toNat_natCast,Int.cast_ofNat_Int,Int.reduceLE,Int.reduceLT,Int.reduceEq,reduceCtorEq,↓reduceIte,Bool.true_eq_false,Bool.false_eq_true,Bool.not_true,Bool.not_false,true_and,and_true,and_assoc,qaj,sub1,qc8,qc7,qc9,List.length_replicate,Nat.le_refl,false_implies,true_implies,ne_eq,not_true_eq_false,not_false_eq_true,decide_true,decide_false,decide_eq_true_eq,decide_eq_false_iff_not,Bool.not_eq_true',Bool.not_eq_false']
  repeat (refine And.intro (by omega) ?_)
  simp only [out, outs, out1, pur, and_self]
/-! ### FieldPowers -/
theorem lawFieldPowers : ∀ ds, preKK ds → Does Try.prog gl 3 (injV ds 4) (gl ++ injB true ds) (out (4 + (injB true ds).length) (FTrue ds)) := by
  refine fdoesA (l := [(23, s23), (24, s24), (25, s25), (26, s26), (27, s27), (29, s29), (28, s28), (30, s30), (31, s31), (32, s32)]) mixed gl_plain rfl Try.func3 comp3 compR3 nt3 (by simp only [List.mem_cons, List.not_mem_nil, or_false, forall_eq_or_imp, forall_eq]; exact ⟨ok23, ok24, ok25, ok26, ok27, ok29, ok28, ok30, ok31, ok32⟩) fun ds ⟨a, e, hd, ha, he⟩ hA => ?_
  subst hd
  have hal := ha.1
  have hel := he.1
  have sa : sub a 0 32 = a := qda hal
  have se : sub e 0 32 = e := qda hel
  have hX := xo_el ha
  have hp := plc_lg ha
  obtain ⟨X, hXX⟩ : ∃ X, xo a = X := ⟨_, rfl⟩
  obtain ⟨p, hpp⟩ : ∃ p, plc a = p := ⟨_, rfl⟩
  have hXX' : dig 2251799813685248 5 (val 256 a) = X := hXX
  rw [hXX] at hX; rw [hpp] at hp
  have hXl := hX.len
  have sX : sub X 0 5 = X := qda hXl
  have spX : spl [0, 0, 0, 0, 0] 0 X = X := qc6 (by simp [hXl])
  have k1 := ha.p1
  have k2 := ha.p
  have po : pre29 [.s .u8 e] := ⟨_, rfl, he.2, by omega⟩
  have e33 : (32 + 1) / 2 = 16 := rfl
  obtain ⟨f, hf⟩ : ∃ f, dig 65536 16 (val 256 e) = f := ⟨_, rfl⟩
  have hfl : f.length = 16 := by rw [← hf, qaj]
  have hfd : Dig 65536 f := by rw [← hf]; exact dig_dig (by decide) _ _
  have hfv : val 65536 f = val 256 e := by
    have hv := val_bound (by decide : (0 : Int) < 256) he.2
    rw [hel] at hv
    rw [← hf]; exact val_dig (by decide) hv.1 (Int.lt_of_lt_of_le hv.2 (by decide))
  have sf : sub f 0 16 = f := qda hfl
  have pp : prePw [.s .u32 p, .s .u32 f] := ⟨_, _, rfl, hp.sh, hfd, by omega⟩
  have q1 := hX.pk he
  have q2 := hX.p1
  have e1 := pow_el (val 256 e) hX
  have f1 := rpow_lg (val 256 e) hp
  have e2 := inv_el hX
  have f2 := over_lg hp
  have b1 : bytesF (powF X (val 256 e)) = dig 256 32 (val 65536 (rpow p 256 (val 256 e))) := by rw [e1.bytes, f1.is]
  have b2 : bytesF (invF X) = dig 256 32 (val 65536 (over p)) := by rw [e2.bytes, f2.is]
  have p1 := e1.p1
  have p2 := e2.p1
  have g1 := f1.pk
  have g2 := f2.pk
  have ps : preSh [.s .u32 p] := ⟨_, rfl, hp.sh⟩
  have pA : pre23 [] := rfl
  simp only [s23, s24, s25, s26, s27, s29, s28, s30, s31, s32]
  simp only [ir3,rs3,gl,FTrue,hal,hel,sa,se,hXX',hpp,hXl,sX,spX,k1,k2,po,e33,hf,hfl,hfv,sf,pp,q1,q2,b1,b2,p1,p2,g1,g2,ps,pA,eq_self,s23,s24,s25,s26,s27,s29,s28,s30,s31,s32,F23,F24,F25,F26,F27,F29,F28,F30,F31,F32,qda,qc6,qaj,List.length_cons,List.length_nil,Nat.reduceAdd,Nat.le_refl,Nat.reduceLeDiff,Nat.reduceLT,true_and,and_true,↓qax,↓qay,↓qa0,↓qaz,↓qcs,↓qbj,↓qa1,↓qcl,↓qb3,↓qci,↓qcb,↓qce,↓qcf,↓qb4,↓qcd,↓qcj,↓qb5,↓qcg,↓qch,↓qb6,↓qcc,↓qca,↓qb9,↓qb8,↓qb7,↓qa5,↓qbc,↓qa6,↓qbd,↓qa7,↓qbe,↓qa8,↓qbf,↓qa9,↓qbg,↓qba,↓qbh,↓qbb,↓qbi,↓qb2,↓qck,↓qfc,↓qco,↓qcp,↓qcq,↓qcn,↓qcm,↓qbm,↓qbn,↓qb0,↓qbv,↓qbq,↓qbu,↓qbz,↓qbw,↓qby,↓qbx,↓qbr,↓qbp,↓qb1,↓qbs,↓qbt,↓qbo,↓qez,↓qey,↓qe3,↓qe5,↓qe4,↓qex,↓qew,↓qet,↓qeu,↓qe2,↓qe1,↓qe0,qc5,↓qeq,↓qer,↓qev,↓qc4,↓qc2,↓qc3,↓qe7,↓qe8,↓qe9,↓qe6,qaa,↓qes,↓qef,↓qeg,↓qfb,↓qfa,↓qei,↓qdk,↓qds,↓qd9,↓qea,↓qen,↓qeo,↓qdo,↓qdp,↓qdr,↓qdq,↓qdx,↓qep,↓qdv,↓qej,↓qdn,↓qed,↓qek,↓qel,↓qem,↓qd1,↓qd0,↓qd2,↓qd3,↓qd5,↓qdz,↓qd6,↓qd8,↓qd7,↓qdl,↓qdm,↓qdy,↓qaw,↓qdw,↓qee,↓qec,↓qdj,↓qeh,↓qeb,↓qd4,qav,List.drop_zero,Nat.sub_zero,qcy,qct,qcu,qdh,qat,qas,qaf,List.map_cons,List.map_nil,List.zip_cons_cons,List.zip_nil_right,List.zip_nil_left,qau,evs,evp,mkB,repB,blen,qae,qad,qac,qab,qc1,qc0,qdg,qdi,qde,qdf,qcx,qcz,qcv,qcw,↓qdc,↓qdb,↓qdd,↓qah,↓qag,↓qai,↓retQ,res,resAll,resOne,kill,apartOk,exp,injV,injB,pur,purs,purR,pursR,List.set_cons_zero,List.set_cons_succ,List.length_cons,List.length_nil,List.cons_append,List.nil_append,List.append_nil,List.append_assoc,List.length_append,List.reduceReplicate,Nat.reduceAdd,Nat.reduceMul,Nat.reduceSub,Nat.reduceEqDiff,Nat.reduceLT,Nat.zero_add,Nat.add_zero,Nat.mul_one,Int.reduceToNat,Int.toNat_natCast,Int.cast_ofNat_Int,Int.reduceLE,Int.reduceLT,Int.reduceEq,reduceCtorEq,↓reduceIte,Bool.true_eq_false,Bool.false_eq_true,Bool.not_true,Bool.not_false,true_and,and_true,and_assoc,qaj,sub1,qc8,qc7,qc9,List.length_replicate,Nat.le_refl,false_implies,true_implies,ne_eq,not_true_eq_false,not_false_eq_true,decide_true,decide_false,decide_eq_true_eq,decide_eq_false_iff_not,Bool.not_eq_true',Bool.not_eq_false']
  repeat (refine And.intro (by omega) ?_)
  simp only [out, outs, out1, pur, and_self]
/-! ### FieldSwaps -/
def preSwK (ds : List D) : Prop := ∃ (s : Int) (a b : List Int), ds = [.v (.int .u64 s), .v (.ints .u8 a), .v (.ints .u8 b)] ∧ (0 ≤ s ∧ s < 18446744073709551616) ∧ Key a ∧ Key b
theorem lawFieldSwaps : ∀ ds, preSwK ds → Does Try.prog gl 7 (injV ds 4) (gl ++ injB true ds) (out (4 + (injB true ds).length) (FTrue ds)) := by
  refine fdoesA (l := [(23, s23), (24, s24), (40, s40), (34, s34)]) mixed gl_plain rfl Try.func7 comp7 compR7 nt7 (by simp only [List.mem_cons, List.not_mem_nil, or_false, forall_eq_or_imp, forall_eq]; exact ⟨ok23, ok24, ok40, ok34⟩) fun ds ⟨s, a, b, hd, hs, ha, hb⟩ hA => ?_
  subst hd
  have hal := ha.1
  have hbl := hb.1
  have sa : sub a 0 32 = a := qda hal
  have sb : sub b 0 32 = b := qda hbl
  have hX := xo_el ha
  have hY := xo_el hb
  obtain ⟨X, hXX⟩ : ∃ X, xo a = X := ⟨_, rfl⟩
  obtain ⟨Y, hYY⟩ : ∃ Y, xo b = Y := ⟨_, rfl⟩
  have hXX' : dig 2251799813685248 5 (val 256 a) = X := hXX
  have hYY' : dig 2251799813685248 5 (val 256 b) = Y := hYY
  rw [hXX] at hX; rw [hYY] at hY
  have hXl := hX.len
  have hYl := hY.len
  have sX : sub X 0 5 = X := qda hXl
  have sY : sub Y 0 5 = Y := qda hYl
  have spX : spl [0, 0, 0, 0, 0] 0 X = X := qc6 (by simp [hXl])
  have spY : spl [0, 0, 0, 0, 0] 0 Y = Y := qc6 (by simp [hYl])
  have spa : spl b 0 a = a := qc6 (by omega)
  have spb : spl a 0 b = b := qc6 (by omega)
  have k1 := ha.p1
  have k3 := hb.p1
  have q1 := hX.p2 hX
  have q2 := hY.p2 hY
  have pw1 : preSw [.v (.int .u64 s), .v (.ints .u64 X), .v (.ints .u64 Y)] := ⟨_, _, _, rfl, hs, hX.1, hY.1⟩
  have pA : pre23 [] := rfl
  have tm : s.tmod 2 = s % 2 := Int.tmod_eq_emod_of_nonneg hs.1
  simp only [s23, s24, s40, s34]
  by_cases h1 : s % 2 = 1
  · have hF : swF s X Y = (Y, X) := by rw [swF, if_pos h1]
    simp only [ir7,rs7,gl,FTrue,hal,hbl,sa,sb,hXX',hYY',hXl,hYl,sX,sY,spX,spY,spa,spb,k1,k3,q1,q2,pw1,pA,tm,h1,hF,eq_self,s23,s24,s40,s34,F23,F24,F40,F34,qda,qc6,qaj,List.length_cons,List.length_nil,Nat.reduceAdd,Nat.le_refl,Nat.reduceLeDiff,Nat.reduceLT,true_and,and_true,↓qax,↓qay,↓qa0,↓qaz,↓qcs,↓qbj,↓qa1,↓qcl,↓qb3,↓qci,↓qcb,↓qce,↓qcf,↓qb4,↓qcd,↓qcj,↓qb5,↓qcg,↓qch,↓qb6,↓qcc,↓qca,↓qb9,↓qb8,↓qb7,↓qa5,↓qbc,↓qa6,↓qbd,↓qa7,↓qbe,↓qa8,↓qbf,↓qa9,↓qbg,↓qba,↓qbh,↓qbb,↓qbi,↓qb2,↓qck,↓qfc,↓qco,↓qcp,↓qcq,↓qcn,↓qcm,↓qbm,↓qbn,↓qb0,↓qbv,↓qbq,↓qbu,↓qbz,↓qbw,↓qby,↓qbx,↓qbr,↓qbp,↓qb1,↓qbs,↓qbt,↓qbo,↓qez,↓qey,↓qe3,↓qe5,↓qe4,↓qex,↓qew,↓qet,↓qeu,↓qe2,↓qe1,↓qe0,qc5,↓qeq,↓qer,↓qev,↓qc4,↓qc2,↓qc3,↓qe7,↓qe8,↓qe9,↓qe6,qaa,↓qes,↓qef,↓qeg,↓qfb,↓qfa,↓qei,↓qdk,↓qds,↓qd9,↓qea,↓qen,↓qeo,↓qdo,↓qdp,↓qdr,↓qdq,↓qdx,↓qep,↓qdv,↓qej,↓qdn,↓qed,↓qek,↓qel,↓qem,↓qd1,↓qd0,↓qd2,↓qd3,↓qd5,↓qdz,↓qd6,↓qd8,↓qd7,↓qdl,↓qdm,↓qdy,↓qaw,↓qdw,↓qee,↓qec,↓qdj,↓qeh,↓qeb,↓qd4,qav,List.drop_zero,Nat.sub_zero,qcy,qct,qcu,qdh,qat,qas,qaf,List.map_cons,List.map_nil,List.zip_cons_cons,List.zip_nil_right,List.zip_nil_left,qau,evs,evp,mkB,repB,blen,qae,qad,qac,qab,qc1,qc0,qdg,qdi,qde,qdf,qcx,qcz,qcv,qcw,↓qdc,↓qdb,↓qdd,↓qah,↓qag,↓qai,↓retQ,res,resAll,resOne,kill,apartOk,exp,injV,injB,pur,purs,purR,pursR,List.set_cons_zero,List.set_cons_succ,List.length_cons,List.length_nil,List.cons_append,List.nil_append,List.append_nil,List.append_assoc,List.length_append,List.reduceReplicate,Nat.reduceAdd,Nat.reduceMul,Nat.reduceSub,Nat.reduceEqDiff,Nat.reduceLT,Nat.zero_add,Nat.add_zero,Nat.mul_one,Int.reduceToNat,Int.toNat_natCast,Int.cast_ofNat_Int,Int.reduceLE,Int.reduceLT,Int.reduceEq,reduceCtorEq,↓reduceIte,Bool.true_eq_false,Bool.false_eq_true,Bool.not_true,Bool.not_false,true_and,and_true,and_assoc,qaj,sub1,qc8,qc7,qc9,List.length_replicate,Nat.le_refl,false_implies,true_implies,ne_eq,not_true_eq_false,not_false_eq_true,decide_true,decide_false,decide_eq_true_eq,decide_eq_false_iff_not,Bool.not_eq_true',Bool.not_eq_false']
    repeat (refine And.intro (by omega) ?_)
    simp only [out, outs, out1, pur, and_self]
  · have h0 : s % 2 = 0 := by omega
    have hF : swF s X Y = (X, Y) := by rw [swF, if_neg h1]
    simp only [ir7,rs7,gl,FTrue,hal,hbl,sa,sb,hXX',hYY',hXl,hYl,sX,sY,spX,spY,k1,k3,q1,q2,pw1,pA,tm,h0,hF,eq_self,s23,s24,s40,s34,F23,F24,F40,F34,qda,qc6,qaj,List.length_cons,List.length_nil,Nat.reduceAdd,Nat.le_refl,Nat.reduceLeDiff,Nat.reduceLT,true_and,and_true,↓qax,↓qay,↓qa0,↓qaz,↓qcs,↓qbj,↓qa1,↓qcl,↓qb3,↓qci,↓qcb,↓qce,↓qcf,↓qb4,↓qcd,↓qcj,↓qb5,↓qcg,↓qch,↓qb6,↓qcc,↓qca,↓qb9,↓qb8,↓qb7,↓qa5,↓qbc,↓qa6,↓qbd,↓qa7,↓qbe,↓qa8,↓qbf,↓qa9,↓qbg,↓qba,↓qbh,↓qbb,↓qbi,↓qb2,↓qck,↓qfc,↓qco,↓qcp,↓qcq,↓qcn,↓qcm,↓qbm,↓qbn,↓qb0,↓qbv,↓qbq,↓qbu,↓qbz,↓qbw,↓qby,↓qbx,↓qbr,↓qbp,↓qb1,↓qbs,↓qbt,↓qbo,↓qez,↓qey,↓qe3,↓qe5,↓qe4,↓qex,↓qew,↓qet,↓qeu,↓qe2,↓qe1,↓qe0,qc5,↓qeq,↓qer,↓qev,↓qc4,↓qc2,↓qc3,↓qe7,↓qe8,↓qe9,↓qe6,qaa,↓qes,↓qef,↓qeg,↓qfb,↓qfa,↓qei,↓qdk,↓qds,↓qd9,↓qea,↓qen,↓qeo,↓qdo,↓qdp,↓qdr,↓qdq,↓qdx,↓qep,↓qdv,↓qej,↓qdn,↓qed,↓qek,↓qel,↓qem,↓qd1,↓qd0,↓qd2,↓qd3,↓qd5,↓qdz,↓qd6,↓qd8,↓qd7,↓qdl,↓qdm,↓qdy,↓qaw,↓qdw,↓qee,↓qec,↓qdj,↓qeh,↓qeb,↓qd4,qav,List.drop_zero,Nat.sub_zero,qcy,qct,qcu,qdh,qat,qas,qaf,List.map_cons,List.map_nil,List.zip_cons_cons,List.zip_nil_right,List.zip_nil_left,qau,evs,evp,mkB,repB,blen,qae,qad,qac,qab,qc1,qc0,qdg,qdi,qde,qdf,qcx,qcz,qcv,qcw,↓qdc,↓qdb,↓qdd,↓qah,↓qag,↓qai,↓retQ,res,resAll,resOne,kill,apartOk,exp,injV,injB,pur,purs,purR,pursR,List.set_cons_zero,List.set_cons_succ,List.length_cons,List.length_nil,List.cons_append,List.nil_append,List.append_nil,List.append_assoc,List.length_append,List.reduceReplicate,Nat.reduceAdd,Nat.reduceMul,Nat.reduceSub,Nat.reduceEqDiff,Nat.reduceLT,Nat.zero_add,Nat.add_zero,Nat.mul_one,Int.reduceToNat,Int.toNat_natCast,Int.cast_ofNat_Int,Int.reduceLE,Int.reduceLT,Int.reduceEq,reduceCtorEq,↓reduceIte,Bool.true_eq_false,Bool.false_eq_true,Bool.not_true,Bool.not_false,true_and,and_true,and_assoc,qaj,sub1,qc8,qc7,qc9,List.length_replicate,Nat.le_refl,false_implies,true_implies,ne_eq,not_true_eq_false,not_false_eq_true,decide_true,decide_false,decide_eq_true_eq,decide_eq_false_iff_not,Bool.not_eq_true',Bool.not_eq_false']
    repeat (refine And.intro (by omega) ?_)
    simp only [out, outs, out1, pur, and_self]
end Am
set_option linter.unusedSimpArgs false
set_option linter.unusedVariables false
set_option maxRecDepth 20000
namespace Am
open Go.Proofs
/-! ### FieldAsks -/
def preAsk (ds : List D) : Prop := ∃ (a b : List Int) (s : Bool), ds = [.v (.ints .u8 a), .v (.ints .u8 b), .v (.bool s)] ∧ Key a ∧ Key b
theorem lawFieldAsks : ∀ ds, preAsk ds → Does Try.prog gl 4 (injV ds 4) (gl ++ injB true ds) (out (4 + (injB true ds).length) (FTrue ds)) := by
  refine fdoesA (l := [(23, s23), (24, s24), (25, s25), (30, s30), (33, s33), (34, s34), (35, s35)]) mixed gl_plain rfl Try.func4 comp4 compR4 nt4 (by simp only [List.mem_cons, List.not_mem_nil, or_false, forall_eq_or_imp, forall_eq]; exact ⟨ok23, ok24, ok25, ok30, ok33, ok34, ok35⟩) fun ds ⟨a, b, s, hd, ha, hb⟩ hA => ?_
  subst hd
  have hal := ha.1
  have hbl := hb.1
  have sa : sub a 0 32 = a := qda hal
  have sb : sub b 0 32 = b := qda hbl
  have hX := xo_el ha
  have hp := plc_lg ha
  obtain ⟨X, hXX⟩ : ∃ X, xo a = X := ⟨_, rfl⟩
  obtain ⟨p, hpp⟩ : ∃ p, plc a = p := ⟨_, rfl⟩
  have hXX' : dig 2251799813685248 5 (val 256 a) = X := hXX
  rw [hXX] at hX; rw [hpp] at hp
  have hXl := hX.len
  have sX : sub X 0 5 = X := qda hXl
  have spX : spl [0, 0, 0, 0, 0] 0 X = X := qc6 (by simp [hXl])
  have k1 := ha.p1
  have k2 := ha.p
  have q1 := hX.p1
  have g1 := hp.pk
  obtain ⟨k, hk⟩ : ∃ k, dig 256 32 (val 65536 p) = k := ⟨_, rfl⟩
  have b1 : bytesF X = k := by rw [hX.bytes, ← hk, hp.is]
  have hkl : k.length = 32 := by rw [← hk, qaj]
  have hkd : Dig 256 k := by rw [← hk]; exact dig_dig (by decide) _ _
  have sk : sub k 0 32 = k := qda hkl
  have spk : spl [0, 0, 0, 0, 0, 0, 0, 0, 0, 0, 0, 0, 0, 0, 0, 0, 0, 0, 0, 0, 0, 0, 0, 0, 0, 0, 0, 0, 0, 0, 0, 0] 0 k = k := qc6 (by simp [hkl])
  have hg := hkd.all (by decide) 0
  have w1 : bAnd .u8 (getI k 0) 1 = getI k 0 % 2 := bAnd_one8 hg.1 hg.2
  have r32 : List.replicate 32 (0 : Int) = [0, 0, 0, 0, 0, 0, 0, 0, 0, 0, 0, 0, 0, 0, 0, 0, 0, 0, 0, 0, 0, 0, 0, 0, 0, 0, 0, 0, 0, 0, 0, 0] := rfl
  have pA : pre23 [] := rfl
  have hsa := hal
  cases s with
  | true =>
    have hx := xor128 (ha.2.all (by decide) 31)
    have spa : spl b 0 a = a := qc6 (by omega)
    obtain ⟨hkc, hcv⟩ := kv_low ha ⟨hx.1, hx.2.1⟩ hx.2.2
    obtain ⟨c, hc⟩ : ∃ c, a.set 31 (bXor .u8 (getI a 31) 128) = c := ⟨_, rfl⟩
    rw [hc] at hkc hcv
    have hcl := hkc.1
    have sc : sub c 0 32 = c := qda hcl
    have hY := xo_el hkc
    have hq := plc_lg hkc
    rw [hcv] at hY hq
    obtain ⟨Y, hYY⟩ : ∃ Y, xo c = Y := ⟨_, rfl⟩
    obtain ⟨q, hqq⟩ : ∃ q, plc c = q := ⟨_, rfl⟩
    have hYY' : dig 2251799813685248 5 (val 256 c) = Y := hYY
    rw [hYY] at hY; rw [hqq] at hq
    have hYl := hY.len
    have sY : sub Y 0 5 = Y := qda hYl
    have spY : spl [0, 0, 0, 0, 0] 0 Y = Y := qc6 (by simp [hYl])
    have k3 := hkc.p1
    have k4 := hkc.p
    have q2 := hX.p2 hY
    have g2 := hq.pk
    have b2 : bytesF Y = k := by rw [hY.bytes, ← hk, hp.is]
    have b3 : dig 256 32 (val 65536 q) = k := by rw [← hk, hq.is, hp.is]
    simp only [s23, s24, s25, s30, s33, s34, s35]
    simp only [ir4,rs4,gl,FTrue,hal,hbl,sa,sb,spa,hc,hcl,sc,hXX',hpp,hYY',hqq,hXl,hYl,sX,sY,spX,spY,k1,k2,k3,k4,q1,q2,g1,g2,hk,b1,b2,b3,hkl,sk,spk,w1,pA,eq_self,BEq.rfl,s23,s24,s25,s30,s33,s34,s35,F23,F24,F25,F30,F33,F34,F35,qda,qc6,qaj,List.length_cons,List.length_nil,Nat.reduceAdd,Nat.le_refl,Nat.reduceLeDiff,Nat.reduceLT,true_and,and_true,↓qax,↓qay,↓qa0,↓qaz,↓qcs,↓qbj,↓qa1,↓qcl,↓qb3,↓qci,↓qcb,↓qce,↓qcf,↓qb4,↓qcd,↓qcj,↓qb5,↓qcg,↓qch,↓qb6,↓qcc,↓qca,↓qb9,↓qb8,↓qb7,↓qa5,↓qbc,↓qa6,↓qbd,↓qa7,↓qbe,↓qa8,↓qbf,↓qa9,↓qbg,↓qba,↓qbh,↓qbb,↓qbi,↓qb2,↓qck,↓qfc,↓qco,↓qcp,↓qcq,↓qcn,↓qcm,↓qbm,↓qbn,↓qb0,↓qbv,↓qbq,↓qbu,↓qbz,↓qbw,↓qby,↓qbx,↓qbr,↓qbp,↓qb1,↓qbs,↓qbt,↓qbo,↓qez,↓qey,↓qe3,↓qe5,↓qe4,↓qex,↓qew,↓qet,↓qeu,↓qe2,↓qe1,↓qe0,qc5,↓qeq,↓qer,↓qev,↓qc4,↓qc2,↓qc3,↓qe7,↓qe8,↓qe9,↓qe6,qaa,↓qes,↓qef,↓qeg,↓qfb,↓qfa,↓qei,↓qdk,↓qds,↓qd9,↓qea,↓qen,↓qeo,↓qdo,↓qdp,↓qdr,↓qdq,↓qdx,↓qep,↓qdv,↓qej,↓qdn,↓qed,↓qek,↓qel,↓qem,↓qd1,↓qd0,↓qd2,↓qd3,↓qd5,↓qdz,↓qd6,↓qd8,↓qd7,↓qdl,↓qdm,↓qdy,↓qaw,↓qdw,↓qee,↓qec,↓qdj,↓qeh,↓qeb,↓qd4,qav,List.drop_zero,Nat.sub_zero,qcy,qct,qcu,qdh,qat,qas,qaf,List.map_cons,List.map_nil,List.zip_cons_cons,List.zip_nil_right,List.zip_nil_left,qau,evs,evp,mkB,repB,blen,qae,qad,qac,qab,qc1,qc0,qdg,qdi,qde,qdf,qcx,qcz,qcv,qcw,↓qdc,↓qdb,↓qdd,↓qah,↓qag,↓qai,↓retQ,res,resAll,resOne,kill,apartOk,exp,injV,injB,pur,purs,purR,pursR,List.set_cons_zero,List.set_cons_succ,List.length_cons,List.length_nil,List.cons_append,List.nil_append,List.append_nil,List.append_assoc,List.length_append,List.reduceReplicate,Nat.reduceAdd,Nat.reduceMul,Nat.reduceSub,Nat.reduceEqDiff,Nat.reduceLT,Nat.zero_add,Nat.add_zero,Nat.mul_one,Int.reduceToNat,Int.toNat_natCast,Int.cast_ofNat_Int,Int.reduceLE,Int.reduceLT,Int.reduceEq,reduceCtorEq,↓reduceIte,Bool.true_eq_false,Bool.false_eq_true,Bool.not_true,Bool.not_false,true_and,and_true,and_assoc,qaj,sub1,qc8,qc7,qc9,List.length_replicate,Nat.le_refl,false_implies,true_implies,ne_eq,not_true_eq_false,not_false_eq_true,decide_true,decide_false,decide_eq_true_eq,decide_eq_false_iff_not,Bool.not_eq_true',Bool.not_eq_false']
    repeat (refine And.intro (by omega) ?_)
    simp only [out, outs, out1, pur, and_self]
  | false =>
    have hY := xo_el hb
    have hq := plc_lg hb
    obtain ⟨Y, hYY⟩ : ∃ Y, xo b = Y := ⟨_, rfl⟩
    obtain ⟨q, hqq⟩ : ∃ q, plc b = q := ⟨_, rfl⟩
    have hYY' : dig 2251799813685248 5 (val 256 b) = Y := hYY
    rw [hYY] at hY; rw [hqq] at hq
    have hYl := hY.len
    have sY : sub Y 0 5 = Y := qda hYl
    have spY : spl [0, 0, 0, 0, 0] 0 Y = Y := qc6 (by simp [hYl])
    have k3 := hb.p1
    have k4 := hb.p
    have q2 := hX.p2 hY
    have g2 := hq.pk
    obtain ⟨j, hj⟩ : ∃ j, dig 256 32 (val 65536 q) = j := ⟨_, rfl⟩
    have b2 : bytesF Y = j := by rw [hY.bytes, ← hj, hq.is]
    have hjl : j.length = 32 := by rw [← hj, qaj]
    simp only [s23, s24, s25, s30, s33, s34, s35]
    simp only [ir4,rs4,gl,FTrue,hal,hbl,sa,sb,hXX',hpp,hYY',hqq,hXl,hYl,sX,sY,spX,spY,k1,k2,k3,k4,q1,q2,g1,g2,hk,hj,hjl,b1,b2,hkl,sk,spk,w1,pA,eq_self,BEq.rfl,s23,s24,s25,s30,s33,s34,s35,F23,F24,F25,F30,F33,F34,F35,qda,qc6,qaj,List.length_cons,List.length_nil,Nat.reduceAdd,Nat.le_refl,Nat.reduceLeDiff,Nat.reduceLT,true_and,and_true,↓qax,↓qay,↓qa0,↓qaz,↓qcs,↓qbj,↓qa1,↓qcl,↓qb3,↓qci,↓qcb,↓qce,↓qcf,↓qb4,↓qcd,↓qcj,↓qb5,↓qcg,↓qch,↓qb6,↓qcc,↓qca,↓qb9,↓qb8,↓qb7,↓qa5,↓qbc,↓qa6,↓qbd,↓qa7,↓qbe,↓qa8,↓qbf,↓qa9,↓qbg,↓qba,↓qbh,↓qbb,↓qbi,↓qb2,↓qck,↓qfc,↓qco,↓qcp,↓qcq,↓qcn,↓qcm,↓qbm,↓qbn,↓qb0,↓qbv,↓qbq,↓qbu,↓qbz,↓qbw,↓qby,↓qbx,↓qbr,↓qbp,↓qb1,↓qbs,↓qbt,↓qbo,↓qez,↓qey,↓qe3,↓qe5,↓qe4,↓qex,↓qew,↓qet,↓qeu,↓qe2,↓qe1,↓qe0,qc5,↓qeq,↓qer,↓qev,↓qc4,↓qc2,↓qc3,↓qe7,↓qe8,↓qe9,↓qe6,qaa,↓qes,↓qef,↓qeg,↓qfb,↓qfa,↓qei,↓qdk,↓qds,↓qd9,↓qea,↓qen,↓qeo,↓qdo,↓qdp,↓qdr,↓qdq,↓qdx,↓qep,↓qdv,↓qej,↓qdn,↓qed,↓qek,↓qel,↓qem,↓qd1,↓qd0,↓qd2,↓qd3,↓qd5,↓qdz,↓qd6,↓qd8,↓qd7,↓qdl,↓qdm,↓qdy,↓qaw,↓qdw,↓qee,↓qec,↓qdj,↓qeh,↓qeb,↓qd4,qav,List.drop_zero,Nat.sub_zero,qcy,qct,qcu,qdh,qat,qas,qaf,List.map_cons,List.map_nil,List.zip_cons_cons,List.zip_nil_right,List.zip_nil_left,qau,evs,evp,mkB,repB,blen,qae,qad,qac,qab,qc1,qc0,qdg,qdi,qde,qdf,qcx,qcz,qcv,qcw,↓qdc,↓qdb,↓qdd,↓qah,↓qag,↓qai,↓retQ,res,resAll,resOne,kill,apartOk,exp,injV,injB,pur,purs,purR,pursR,List.set_cons_zero,List.set_cons_succ,List.length_cons,List.length_nil,List.cons_append,List.nil_append,List.append_nil,List.append_assoc,List.length_append,List.reduceReplicate,Nat.reduceAdd,Nat.reduceMul,Nat.reduceSub,Nat.reduceEqDiff,Nat.reduceLT,Nat.zero_add,Nat.add_zero,Nat.mul_one,Int.reduceToNat,Int.toNat_natCast,Int.cast_ofNat_Int,Int.reduceLE,Int.reduceLT,Int.reduceEq,reduceCtorEq,↓reduceIte,Bool.true_eq_false,Bool.false_eq_true,Bool.not_true,Bool.not_false,true_and,and_true,and_assoc,qaj,sub1,qc8,qc7,qc9,List.length_replicate,Nat.le_refl,false_implies,true_implies,ne_eq,not_true_eq_false,not_false_eq_true,decide_true,decide_false,decide_eq_true_eq,decide_eq_false_iff_not,Bool.not_eq_true',Bool.not_eq_false']
    repeat (refine And.intro (by omega) ?_)
    simp only [out, outs, out1, pur, and_self]
end Am
