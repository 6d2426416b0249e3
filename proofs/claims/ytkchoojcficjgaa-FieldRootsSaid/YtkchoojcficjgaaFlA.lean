/-
Working texts: contracts of functions, and the numbers behind them.
-/
import Derived.Test.YtkchoojcficjgaaFlZ
import Derived.Test.YtkchoojcficjgaaIrB
import Derived.Test.YtkchoojcficjgaaFrA
set_option linter.unusedSimpArgs false
set_option linter.unusedVariables false
set_option linter.unusedSectionVars false
set_option linter.unusedSimpArgs false
set_option linter.unusedVariables false
set_option maxRecDepth 20000
namespace Am
open Go.Proofs
/-! ### Awake -/
def pre23 (ds : List D) : Prop := ds = []
def F23 : List D → Out
  | _ => .one (.v (.bool true))
def s23 : Summ := sData [] pre23 F23
def ffa (n : Nat) : List Int := itr (fun l i => l.set i 255) (List.replicate 32 0) n
theorem ok23 {g : List Blk} [Ge gl g] : SumOK Try.prog g 23 s23 ∧ SumAbs s23 := by
  refine fsumA (l := [(24, s24), (27, s27), (36, s36), (31, s31), (39, s39)]) mixed gl_plain rfl Try.func23 comp23 compR23 nt23 (by simp only [List.mem_cons, List.not_mem_nil, or_false, forall_eq_or_imp, forall_eq]; exact ⟨ok24, ok27, ok36, ok31, ok39⟩) fun ds hd hA => ?_
  rw [hd]
  simp only [s24, s27, s36, s31, s39]
  simp only [ir23,rs23,gl,F23,qda,qc6,qaj,List.length_cons,List.length_nil,Nat.reduceAdd,Nat.le_refl,Nat.reduceLeDiff,Nat.reduceLT,true_and,and_true,↓qax,↓qay,↓qa0,↓qaz,↓qcs,↓qbj,↓qa1,↓qcl,↓qb3,↓qci,↓qcb,↓qce,↓qcf,↓qb4,↓qcd,↓qcj,↓qb5,↓qcg,↓qch,↓qb6,↓qcc,↓qca,↓qb9,↓qb8,↓qb7,↓qa5,↓qbc,↓qa6,↓qbd,↓qa7,↓qbe,↓qa8,↓qbf,↓qa9,↓qbg,↓qba,↓qbh,↓qbb,↓qbi,↓qb2,↓qck,↓qfc,↓qco,↓qcp,↓qcq,↓qcn,↓qcm,↓qbm,↓qbn,↓qb0,↓qbv,↓qbq,↓qbu,↓qbz,↓qbw,↓qby,↓qbx,↓qbr,↓qbp,↓qb1,↓qbs,↓qbt,↓qbo,↓qez,↓qey,↓qe3,↓qe5,↓qe4,↓qex,↓qew,↓qet,↓qeu,↓qe2,↓qe1,↓qe0,qc5,↓qeq,↓qer,↓qev,↓qc4,↓qc2,↓qc3,↓qe7,↓qe8,↓qe9,↓qe6,qaa,↓qes,↓qef,↓qeg,↓qfb,↓qfa,↓qei,↓qdk,↓qds,↓qd9,↓qea,↓qen,↓qeo,↓qdo,↓qdp,↓qdr,↓qdq,↓qdx,↓qep,↓qdv,↓qej,↓qdn,↓qed,↓qek,↓qel,↓qem,↓qd1,↓qd0,↓qd2,↓qd3,↓qd5,↓qdz,↓qd6,↓qd8,↓qd7,↓qdl,↓qdm,↓qdy,↓qaw,↓qdw,↓qee,↓qec,↓qdj,↓qeh,↓qeb,↓qd4,qav,List.drop_zero,Nat.sub_zero,qcy,qct,qcu,qdh,qat,qas,qaf,List.map_cons,List.map_nil,List.zip_cons_cons,List.zip_nil_right,List.zip_nil_left,qau,evs,evp,mkB,repB,blen,qae,qad,qac,qab,qc1,qc0,qdg,qdi,qde,qdf,qcx,qcz,qcv,qcw,↓qdc,↓qdb,↓qdd,↓qah,↓qag,↓qai,↓retQ,res,resAll,resOne,kill,apartOk,exp,injV,injB,pur,purs,purR,pursR,List.set_cons_zero,List.set_cons_succ,List.length_cons,List.length_nil,List.cons_append,List.nil_append,List.append_nil,List.append_assoc,List.length_append,List.reduceReplicate,Nat.reduceAdd,Nat.reduceMul,Nat.reduceSub,Nat.reduceEqDiff,Nat.reduceLT,Nat.zero_add,Nat.add_zero,Nat.mul_one,Int.reduceToNat,Int.toNat_natCast,Int.cast_ofNat_Int,Int.reduceLE,Int.reduceLT,Int.reduceEq,reduceCtorEq,↓reduceIte,Bool.true_eq_false,Bool.false_eq_true,Bool.not_true,Bool.not_false,true_and,and_true,and_assoc,qaj,sub1,qc8,qc7,qc9,List.length_replicate,Nat.le_refl,false_implies,true_implies,ne_eq,not_true_eq_false,not_false_eq_true,decide_true,decide_false,decide_eq_true_eq,decide_eq_false_iff_not,Bool.not_eq_true',Bool.not_eq_false']
  refine awp_loopA (n := 23) hA [1, 3] (by decide +kernel) (fun i : Nat => [.ptr 4 0, .int .i64 i])
    (fun i => [.dead, .dead, .dead, .dead, .ints false .u8 (ffa i)]) (fun i => i ≤ 32) (fun i => 32 - i) 0 ?_ (by omega) ?_
  · refine Hd.same ?_
    simp only [ffa,itr,↓qax,↓qay,↓qa0,↓qaz,↓qcs,↓qbj,↓qa1,↓qcl,↓qb3,↓qci,↓qcb,↓qce,↓qcf,↓qb4,↓qcd,↓qcj,↓qb5,↓qcg,↓qch,↓qb6,↓qcc,↓qca,↓qb9,↓qb8,↓qb7,↓qa5,↓qbc,↓qa6,↓qbd,↓qa7,↓qbe,↓qa8,↓qbf,↓qa9,↓qbg,↓qba,↓qbh,↓qbb,↓qbi,↓qb2,↓qck,↓qfc,↓qco,↓qcp,↓qcq,↓qcn,↓qcm,↓qbm,↓qbn,↓qb0,↓qbv,↓qbq,↓qbu,↓qbz,↓qbw,↓qby,↓qbx,↓qbr,↓qbp,↓qb1,↓qbs,↓qbt,↓qbo,↓qez,↓qey,↓qe3,↓qe5,↓qe4,↓qex,↓qew,↓qet,↓qeu,↓qe2,↓qe1,↓qe0,qc5,↓qeq,↓qer,↓qev,↓qc4,↓qc2,↓qc3,↓qe7,↓qe8,↓qe9,↓qe6,qaa,↓qes,↓qef,↓qeg,↓qfb,↓qfa,↓qei,↓qdk,↓qds,↓qd9,↓qea,↓qen,↓qeo,↓qdo,↓qdp,↓qdr,↓qdq,↓qdx,↓qep,↓qdv,↓qej,↓qdn,↓qed,↓qek,↓qel,↓qem,↓qd1,↓qd0,↓qd2,↓qd3,↓qd5,↓qdz,↓qd6,↓qd8,↓qd7,↓qdl,↓qdm,↓qdy,↓qaw,↓qdw,↓qee,↓qec,↓qdj,↓qeh,↓qeb,↓qd4,qav,List.drop_zero,Nat.sub_zero,qcy,qct,qcu,qdh,qat,qas,qaf,List.map_cons,List.map_nil,List.zip_cons_cons,List.zip_nil_right,List.zip_nil_left,qau,evs,evp,mkB,repB,blen,qae,qad,qac,qab,qc1,qc0,qdg,qdi,qde,qdf,qcx,qcz,qcv,qcw,↓qdc,↓qdb,↓qdd,↓qah,↓qag,↓qai,↓retQ,res,resAll,resOne,kill,apartOk,exp,injV,injB,pur,purs,purR,pursR,List.set_cons_zero,List.set_cons_succ,List.length_cons,List.length_nil,List.cons_append,List.nil_append,List.append_nil,List.append_assoc,List.length_append,List.reduceReplicate,Nat.reduceAdd,Nat.reduceMul,Nat.reduceSub,Nat.reduceEqDiff,Nat.reduceLT,Nat.zero_add,Nat.add_zero,Nat.mul_one,Int.reduceToNat,Int.toNat_natCast,Int.cast_ofNat_Int,Int.reduceLE,Int.reduceLT,Int.reduceEq,reduceCtorEq,↓reduceIte,Bool.true_eq_false,Bool.false_eq_true,Bool.not_true,Bool.not_false,true_and,and_true,and_assoc,qaj,sub1,qc8,qc7,qc9,List.length_replicate,Nat.le_refl,false_implies,true_implies,ne_eq,not_true_eq_false,not_false_eq_true,decide_true,decide_false,decide_eq_true_eq,decide_eq_false_iff_not,Bool.not_eq_true',Bool.not_eq_false']
  intro i hi K hK
  have hl : (ffa i).length = 32 := itr_inv (fun _ (l : List Int) => l.length = 32) (by simp) (fun n l h => by simp [h]) i
  by_cases hlt : i < 32
  · have c1 : (i : Int) < 32 := by omega
    have wi : Go.IntKind.i64.wrap ((i : Int) + 1) = ((i + 1 : Nat) : Int) := by rw [wrap_i64]; omega
    have hs1 : ffa (i + 1) = (ffa i).set i 255 := rfl
    obtain ⟨w, hw⟩ : ∃ w, ffa i = w := ⟨_, rfl⟩
    rw [hw] at hl hs1
    rw [hw]
    simp only [c1,wi,hl,hlt,qda,qc6,qaj,List.length_cons,List.length_nil,Nat.reduceAdd,Nat.le_refl,Nat.reduceLeDiff,Nat.reduceLT,true_and,and_true,↓qax,↓qay,↓qa0,↓qaz,↓qcs,↓qbj,↓qa1,↓qcl,↓qb3,↓qci,↓qcb,↓qce,↓qcf,↓qb4,↓qcd,↓qcj,↓qb5,↓qcg,↓qch,↓qb6,↓qcc,↓qca,↓qb9,↓qb8,↓qb7,↓qa5,↓qbc,↓qa6,↓qbd,↓qa7,↓qbe,↓qa8,↓qbf,↓qa9,↓qbg,↓qba,↓qbh,↓qbb,↓qbi,↓qb2,↓qck,↓qfc,↓qco,↓qcp,↓qcq,↓qcn,↓qcm,↓qbm,↓qbn,↓qb0,↓qbv,↓qbq,↓qbu,↓qbz,↓qbw,↓qby,↓qbx,↓qbr,↓qbp,↓qb1,↓qbs,↓qbt,↓qbo,↓qez,↓qey,↓qe3,↓qe5,↓qe4,↓qex,↓qew,↓qet,↓qeu,↓qe2,↓qe1,↓qe0,qc5,↓qeq,↓qer,↓qev,↓qc4,↓qc2,↓qc3,↓qe7,↓qe8,↓qe9,↓qe6,qaa,↓qes,↓qef,↓qeg,↓qfb,↓qfa,↓qei,↓qdk,↓qds,↓qd9,↓qea,↓qen,↓qeo,↓qdo,↓qdp,↓qdr,↓qdq,↓qdx,↓qep,↓qdv,↓qej,↓qdn,↓qed,↓qek,↓qel,↓qem,↓qd1,↓qd0,↓qd2,↓qd3,↓qd5,↓qdz,↓qd6,↓qd8,↓qd7,↓qdl,↓qdm,↓qdy,↓qaw,↓qdw,↓qee,↓qec,↓qdj,↓qeh,↓qeb,↓qd4,qav,List.drop_zero,Nat.sub_zero,qcy,qct,qcu,qdh,qat,qas,qaf,List.map_cons,List.map_nil,List.zip_cons_cons,List.zip_nil_right,List.zip_nil_left,qau,evs,evp,mkB,repB,blen,qae,qad,qac,qab,qc1,qc0,qdg,qdi,qde,qdf,qcx,qcz,qcv,qcw,↓qdc,↓qdb,↓qdd,↓qah,↓qag,↓qai,↓retQ,res,resAll,resOne,kill,apartOk,exp,injV,injB,pur,purs,purR,pursR,List.set_cons_zero,List.set_cons_succ,List.length_cons,List.length_nil,List.cons_append,List.nil_append,List.append_nil,List.append_assoc,List.length_append,List.reduceReplicate,Nat.reduceAdd,Nat.reduceMul,Nat.reduceSub,Nat.reduceEqDiff,Nat.reduceLT,Nat.zero_add,Nat.add_zero,Nat.mul_one,Int.reduceToNat,Int.toNat_natCast,Int.cast_ofNat_Int,Int.reduceLE,Int.reduceLT,Int.reduceEq,reduceCtorEq,↓reduceIte,Bool.true_eq_false,Bool.false_eq_true,Bool.not_true,Bool.not_false,true_and,and_true,and_assoc,qaj,sub1,qc8,qc7,qc9,List.length_replicate,Nat.le_refl,false_implies,true_implies,ne_eq,not_true_eq_false,not_false_eq_true,decide_true,decide_false,decide_eq_true_eq,decide_eq_false_iff_not,Bool.not_eq_true',Bool.not_eq_false']
    repeat (refine And.intro (by omega) ?_)
    refine ⟨i + 1, hK _ (by omega) (by omega), Hd.same ?_⟩
    simp only [hs1,↓qax,↓qay,↓qa0,↓qaz,↓qcs,↓qbj,↓qa1,↓qcl,↓qb3,↓qci,↓qcb,↓qce,↓qcf,↓qb4,↓qcd,↓qcj,↓qb5,↓qcg,↓qch,↓qb6,↓qcc,↓qca,↓qb9,↓qb8,↓qb7,↓qa5,↓qbc,↓qa6,↓qbd,↓qa7,↓qbe,↓qa8,↓qbf,↓qa9,↓qbg,↓qba,↓qbh,↓qbb,↓qbi,↓qb2,↓qck,↓qfc,↓qco,↓qcp,↓qcq,↓qcn,↓qcm,↓qbm,↓qbn,↓qb0,↓qbv,↓qbq,↓qbu,↓qbz,↓qbw,↓qby,↓qbx,↓qbr,↓qbp,↓qb1,↓qbs,↓qbt,↓qbo,↓qez,↓qey,↓qe3,↓qe5,↓qe4,↓qex,↓qew,↓qet,↓qeu,↓qe2,↓qe1,↓qe0,qc5,↓qeq,↓qer,↓qev,↓qc4,↓qc2,↓qc3,↓qe7,↓qe8,↓qe9,↓qe6,qaa,↓qes,↓qef,↓qeg,↓qfb,↓qfa,↓qei,↓qdk,↓qds,↓qd9,↓qea,↓qen,↓qeo,↓qdo,↓qdp,↓qdr,↓qdq,↓qdx,↓qep,↓qdv,↓qej,↓qdn,↓qed,↓qek,↓qel,↓qem,↓qd1,↓qd0,↓qd2,↓qd3,↓qd5,↓qdz,↓qd6,↓qd8,↓qd7,↓qdl,↓qdm,↓qdy,↓qaw,↓qdw,↓qee,↓qec,↓qdj,↓qeh,↓qeb,↓qd4,qav,List.drop_zero,Nat.sub_zero,qcy,qct,qcu,qdh,qat,qas,qaf,List.map_cons,List.map_nil,List.zip_cons_cons,List.zip_nil_right,List.zip_nil_left,qau,evs,evp,mkB,repB,blen,qae,qad,qac,qab,qc1,qc0,qdg,qdi,qde,qdf,qcx,qcz,qcv,qcw,↓qdc,↓qdb,↓qdd,↓qah,↓qag,↓qai,↓retQ,res,resAll,resOne,kill,apartOk,exp,injV,injB,pur,purs,purR,pursR,List.set_cons_zero,List.set_cons_succ,List.length_cons,List.length_nil,List.cons_append,List.nil_append,List.append_nil,List.append_assoc,List.length_append,List.reduceReplicate,Nat.reduceAdd,Nat.reduceMul,Nat.reduceSub,Nat.reduceEqDiff,Nat.reduceLT,Nat.zero_add,Nat.add_zero,Nat.mul_one,Int.reduceToNat,Int.toNat_natCast,Int.cast_ofNat_Int,Int.reduceLE,Int.reduceLT,Int.reduceEq,reduceCtorEq,↓reduceIte,Bool.true_eq_false,Bool.false_eq_true,Bool.not_true,Bool.not_false,true_and,and_true,and_assoc,qaj,sub1,qc8,qc7,qc9,List.length_replicate,Nat.le_refl,false_implies,true_implies,ne_eq,not_true_eq_false,not_false_eq_true,decide_true,decide_false,decide_eq_true_eq,decide_eq_false_iff_not,Bool.not_eq_true',Bool.not_eq_false']
  obtain rfl : i = 32 := by omega
  have c1 : ¬((32 : Nat) : Int) < 32 := by omega
  have e0 : ffa 32 = List.replicate 32 255 := by decide
  obtain ⟨k, hk⟩ : ∃ k, ffa 32 = k := ⟨_, rfl⟩
  rw [hk] at hl e0
  rw [hk]
  have hkey : Key k := ⟨hl, by rw [e0]; unfold Dig; decide⟩
  have hkv : kv k = 18 := by rw [e0]; decide
  have sk : sub k 0 32 = k := qda hl
  obtain ⟨X, hX⟩ : ∃ X, dig 2251799813685248 5 (val 256 k) = X := ⟨_, rfl⟩
  have hXe : El X (kv k) := by rw [← hX]; exact xo_el hkey
  have b1 : bytesF X = dig 256 32 18 := by rw [hXe.bytes, hkv]
  have p1 := hkey.p1
  have p2 := hXe.p1
  have e2 : El [2, 0, 0, 0, 0] 2 := small_el (by decide) (by decide)
  have q2 : preU32 [.v (.int .u32 2)] := ⟨2, rfl, by decide, by decide⟩
  have p3 := e2.p1
  have hI := inv_el e2
  obtain ⟨I, hI'⟩ : ∃ I, invF [2, 0, 0, 0, 0] = I := ⟨_, rfl⟩
  rw [hI'] at hI
  have p4 := hI.p2 e2
  have hM := mul_el hI e2
  obtain ⟨M, hM'⟩ : ∃ M, mulF I [2, 0, 0, 0, 0] = M := ⟨_, rfl⟩
  rw [hM'] at hM
  have p5 := hM.p1
  have h1 : pw 2 (Pp - 2) * 2 % Pp = 1 := by decide +kernel
  have b2 : bytesF M = dig 256 32 1 := by rw [hM.bytes, h1]
  have l18 : dig 256 32 18 = [18, 0, 0, 0, 0, 0, 0, 0, 0, 0, 0, 0, 0, 0, 0, 0, 0, 0, 0, 0, 0, 0, 0, 0, 0, 0, 0, 0, 0, 0, 0, 0] := by decide
  have l1 : dig 256 32 1 = [1, 0, 0, 0, 0, 0, 0, 0, 0, 0, 0, 0, 0, 0, 0, 0, 0, 0, 0, 0, 0, 0, 0, 0, 0, 0, 0, 0, 0, 0, 0, 0] := by decide
  rw [l18] at b1
  rw [l1] at b2
  simp only [s24, s27, s36, s31, s39]
  simp only [c1,hl,sk,p1,hX,p2,b1,q2,p3,hI',p4,hM',p5,b2,eq_self,s24,s27,s36,s31,s39,F24,F27,F36,F31,F39,qda,qc6,qaj,List.length_cons,List.length_nil,Nat.reduceAdd,Nat.le_refl,Nat.reduceLeDiff,Nat.reduceLT,true_and,and_true,↓qax,↓qay,↓qa0,↓qaz,↓qcs,↓qbj,↓qa1,↓qcl,↓qb3,↓qci,↓qcb,↓qce,↓qcf,↓qb4,↓qcd,↓qcj,↓qb5,↓qcg,↓qch,↓qb6,↓qcc,↓qca,↓qb9,↓qb8,↓qb7,↓qa5,↓qbc,↓qa6,↓qbd,↓qa7,↓qbe,↓qa8,↓qbf,↓qa9,↓qbg,↓qba,↓qbh,↓qbb,↓qbi,↓qb2,↓qck,↓qfc,↓qco,↓qcp,↓qcq,↓qcn,↓qcm,↓qbm,↓qbn,↓qb0,↓qbv,↓qbq,↓qbu,↓qbz,↓qbw,↓qby,↓qbx,↓qbr,↓qbp,↓qb1,↓qbs,↓qbt,↓qbo,↓qez,↓qey,↓qe3,↓qe5,↓qe4,↓qex,↓qew,↓qet,↓qeu,↓qe2,↓qe1,↓qe0,qc5,↓qeq,↓qer,↓qev,↓qc4,↓qc2,↓qc3,↓qe7,↓qe8,↓qe9,↓qe6,qaa,↓qes,↓qef,↓qeg,↓qfb,↓qfa,↓qei,↓qdk,↓qds,↓qd9,↓qea,↓qen,↓qeo,↓qdo,↓qdp,↓qdr,↓qdq,↓qdx,↓qep,↓qdv,↓qej,↓qdn,↓qed,↓qek,↓qel,↓qem,↓qd1,↓qd0,↓qd2,↓qd3,↓qd5,↓qdz,↓qd6,↓qd8,↓qd7,↓qdl,↓qdm,↓qdy,↓qaw,↓qdw,↓qee,↓qec,↓qdj,↓qeh,↓qeb,↓qd4,qav,List.drop_zero,Nat.sub_zero,qcy,qct,qcu,qdh,qat,qas,qaf,List.map_cons,List.map_nil,List.zip_cons_cons,List.zip_nil_right,List.zip_nil_left,qau,evs,evp,mkB,repB,blen,qae,qad,qac,qab,qc1,qc0,qdg,qdi,qde,qdf,qcx,qcz,qcv,qcw,↓qdc,↓qdb,↓qdd,↓qah,↓qag,↓qai,↓retQ,res,resAll,resOne,kill,apartOk,exp,injV,injB,pur,purs,purR,pursR,List.set_cons_zero,List.set_cons_succ,List.length_cons,List.length_nil,List.cons_append,List.nil_append,List.append_nil,List.append_assoc,List.length_append,List.reduceReplicate,Nat.reduceAdd,Nat.reduceMul,Nat.reduceSub,Nat.reduceEqDiff,Nat.reduceLT,Nat.zero_add,Nat.add_zero,Nat.mul_one,Int.reduceToNat,Int.toNat_natCast,Int.cast_ofNat_Int,Int.reduceLE,Int.reduceLT,Int.reduceEq,reduceCtorEq,↓reduceIte,Bool.true_eq_false,Bool.false_eq_true,Bool.not_true,Bool.not_false,true_and,and_true,and_assoc,qaj,sub1,qc8,qc7,qc9,List.length_replicate,Nat.le_refl,false_implies,true_implies,ne_eq,not_true_eq_false,not_false_eq_true,decide_true,decide_false,decide_eq_true_eq,decide_eq_false_iff_not,Bool.not_eq_true',Bool.not_eq_false']
  repeat (refine And.intro (by omega) ?_)
  simp only [out, outs, out1, pur, and_self]
end Am
set_option linter.unusedSimpArgs false
set_option linter.unusedVariables false
set_option maxRecDepth 20000
namespace Am
open Go.Proofs
/-! ### FieldRoots -/
theorem sqv_sq (b : Int) : sqv (b * b) = true := by
  have e : (b * b) ^ nH = b ^ qP := by rw [PH, Int.pow_add, ← Int.mul_pow]
  by_cases h : b % Pp = 0
  · have : b ^ qP % Pp = 0 := pow_zero_mod h (by decide)
    rw [← e] at this
    unfold sqv; rw [this]; rfl
  · have := fer h
    rw [← e] at this
    unfold sqv; rw [this]; rfl
theorem over_mul {x y : Int} (hy0 : 0 ≤ y) (hy1 : y < Pp) (hyn : y ≠ 0) (hx : 0 ≤ x ∧ x < Pp) : x * pw y (Pp - 2) % Pp * y % Pp = x := by
  have h := inv_mul (x := y) (by omega) hy1
  rw [fm1, Int.mul_assoc, Int.mul_comm (pw y (Pp - 2)), ← fm2, h, Int.mul_one]
  exact Int.emod_eq_of_lt hx.1 hx.2
theorem sqv_mod (a : Int) : sqv (a % Pp) = sqv a := by unfold sqv; rw [pmod]
set_option maxHeartbeats 4000000 in
theorem lawFieldRoots : ∀ ds, preKK ds → Does Try.prog gl 11 (injV ds 4) (gl ++ injB true ds) (out (4 + (injB true ds).length) (FTrue ds)) := by
  refine fdoesA (l := [(23, s23), (24, s24), (46, s46), (25, s25), (33, s33), (32, s32), (44, s44), (47, s47), (39, s39), (34, s34)]) mixed gl_plain rfl Try.func11 comp11 compR11 nt11 (by simp only [List.mem_cons, List.not_mem_nil, or_false, forall_eq_or_imp, forall_eq]; exact ⟨ok23, ok24, ok46, ok25, ok33, ok32, ok44, ok47, ok39, ok34⟩) fun ds ⟨a, b, hd, ha, hb⟩ hA => ?_
  subst hd
  have hal := ha.1
  have hbl := hb.1
  have sa : sub a 0 32 = a := qda hal
  have sb : sub b 0 32 = b := qda hbl
  have eX := xo_el ha
  have eY := xo_el hb
  have ep := plc_lg ha
  have eq := plc_lg hb
  obtain ⟨x, hx⟩ : ∃ x, kv a = x := ⟨_, rfl⟩
  obtain ⟨y, hy⟩ : ∃ y, kv b = y := ⟨_, rfl⟩
  obtain ⟨X, hXX⟩ : ∃ X, xo a = X := ⟨_, rfl⟩
  obtain ⟨Y, hYY⟩ : ∃ Y, xo b = Y := ⟨_, rfl⟩
  obtain ⟨p, hpp⟩ : ∃ p, plc a = p := ⟨_, rfl⟩
  obtain ⟨q, hqq⟩ : ∃ q, plc b = q := ⟨_, rfl⟩
  have hXX' : dig 2251799813685248 5 (val 256 a) = X := hXX
  have hYY' : dig 2251799813685248 5 (val 256 b) = Y := hYY
  rw [hXX, hx] at eX; rw [hYY, hy] at eY; rw [hpp, hx] at ep; rw [hqq, hy] at eq
  have hxb := eX.bd
  have hyb := eY.bd
  have z : ∀ {Z : List Int} {v : Int}, El Z v → Z.length = 5 ∧ sub Z 0 5 = Z ∧ spl [0, 0, 0, 0, 0] 0 Z = Z := fun h => ⟨h.len, qda h.len, qc6 (by simp [h.len])⟩
  obtain ⟨lX, sX, qX⟩ := z eX
  obtain ⟨lY, sY, qY⟩ := z eY
  have k1 := ha.p1
  have k2 := hb.p1
  have k3 := ha.p
  have k4 := hb.p
  have pA : pre23 [] := rfl
  have g1 := eX.p2 eY
  have g2 := eX.p1
  have g3 := eY.p1
  -- the first root
  obtain ⟨v, eV, h1, h2, h3, h4⟩ := root_spec eX eY
  obtain ⟨V, hV⟩ : ∃ V, (rootF X Y).1 = V := ⟨_, rfl⟩
  obtain ⟨ok, hok⟩ : ∃ o, (rootF X Y).2 = o := ⟨_, rfl⟩
  rw [hV] at eV
  rw [hok] at h1 h2 h3 h4
  obtain ⟨lV, sV, qV⟩ := z eV
  have eVV := mul_el eV eV
  have g4 := eV.p2 eV
  have g5 := eV.p1
  obtain ⟨VV, hVV⟩ : ∃ L, mulF V V = L := ⟨_, rfl⟩
  rw [hVV] at eVV
  have g6 := eVV.p2 eY
  have eW := mul_el eVV eY
  obtain ⟨W, hW⟩ : ∃ L, mulF VV Y = L := ⟨_, rfl⟩
  rw [hW, fm1] at eW
  have g7 := eW.p2 eX
  -- the second one
  have eXX := mul_el eX eX
  have eYY := mul_el eY eY
  have g8 := eX.p2 eX
  have g9 := eY.p2 eY
  obtain ⟨X2, hX2⟩ : ∃ L, mulF X X = L := ⟨_, rfl⟩
  obtain ⟨Y2, hY2⟩ : ∃ L, mulF Y Y = L := ⟨_, rfl⟩
  rw [hX2] at eXX
  rw [hY2] at eYY
  have g10 := eXX.p2 eYY
  obtain ⟨s, eS, j1, j2, j3, j4⟩ := root_spec eXX eYY
  obtain ⟨S, hS⟩ : ∃ V, (rootF X2 Y2).1 = V := ⟨_, rfl⟩
  obtain ⟨is, his⟩ : ∃ o, (rootF X2 Y2).2 = o := ⟨_, rfl⟩
  rw [hS] at eS
  rw [his] at j1 j2 j3 j4
  obtain ⟨lS, sS, qS⟩ := z eS
  have eSS := mul_el eS eS
  have g11 := eS.p2 eS
  obtain ⟨SS, hSS⟩ : ∃ L, mulF S S = L := ⟨_, rfl⟩
  rw [hSS] at eSS
  have g12 := eSS.p2 eY
  have eSY := mul_el eSS eY
  obtain ⟨SY, hSY⟩ : ∃ L, mulF SS Y = L := ⟨_, rfl⟩
  rw [hSY] at eSY
  have g13 := eSY.p2 eY
  have eSZ := mul_el eSY eY
  obtain ⟨SZ, hSZ⟩ : ∃ L, mulF SY Y = L := ⟨_, rfl⟩
  rw [hSZ] at eSZ
  have g14 := eSZ.p2 eXX
  -- the reference's quotient
  have o1 : preSh [.s .u32 q] := ⟨_, rfl, eq.sh⟩
  have eO := over_lg eq
  obtain ⟨O, hO⟩ : ∃ L, over q = L := ⟨_, rfl⟩
  rw [hO] at eO
  have o2 := ep.p2 eO
  have eQ := rmul_lg ep eO
  obtain ⟨Q, hQ⟩ : ∃ L, rmul p O = L := ⟨_, rfl⟩
  rw [hQ] at eQ
  have o3 : preSh [.s .u32 Q] := ⟨_, rfl, eQ.sh⟩
  have hsq := sqL_val eQ
  have zX : bytesF X = [0, 0, 0, 0, 0, 0, 0, 0, 0, 0, 0, 0, 0, 0, 0, 0, 0, 0, 0, 0, 0, 0, 0, 0, 0, 0, 0, 0, 0, 0, 0, 0] ↔ x = 0 := by rw [eX.bytes]; exact zero_iff hxb.1 hxb.2
  have zY : bytesF Y = [0, 0, 0, 0, 0, 0, 0, 0, 0, 0, 0, 0, 0, 0, 0, 0, 0, 0, 0, 0, 0, 0, 0, 0, 0, 0, 0, 0, 0, 0, 0, 0] ↔ y = 0 := by rw [eY.bytes]; exact zero_iff hyb.1 hyb.2
  have yy : y * y % Pp = 0 ↔ y = 0 := ⟨fun h => by rcases pzero h with h | h <;> rwa [Int.emod_eq_of_lt hyb.1 hyb.2] at h, fun h => by rw [h]; rfl⟩
  have xx : x * x % Pp = 0 ↔ x = 0 := ⟨fun h => by rcases pzero h with h | h <;> rwa [Int.emod_eq_of_lt hxb.1 hxb.2] at h, fun h => by rw [h]; rfl⟩
  have f1 : ok = true → bytesF W = bytesF X := fun h => by rw [eW.bytes, eX.bytes, h1 h]
  have f2 : ok = false → bytesF V = [0, 0, 0, 0, 0, 0, 0, 0, 0, 0, 0, 0, 0, 0, 0, 0, 0, 0, 0, 0, 0, 0, 0, 0, 0, 0, 0, 0, 0, 0, 0, 0] := fun h => by rw [eV.bytes, h2 h]; exact dig_zero 256 32
  have f3 : is = true → bytesF SZ = bytesF X2 := fun h => by
    have e : s * s % Pp * y * y % Pp = s * s * (y * y) % Pp := by rw [Int.mul_assoc (s * s % Pp), fm1]
    rw [eSZ.bytes, eXX.bytes, ← j1 h, fm1, fm2, e]
  have his2 : y ≠ 0 → is = true := fun hyn => by
    rw [j4 (fun e => hyn (yy.1 e)) (x * pw y (Pp - 2) * (x * pw y (Pp - 2))) ?_]
    · exact sqv_sq _
    · have := over_mul hyb.1 hyb.2 hyn hxb
      rw [fm1] at this
      rw [fm2, show x * pw y (Pp - 2) * (x * pw y (Pp - 2)) * (y * y) = x * pw y (Pp - 2) * y * (x * pw y (Pp - 2) * y) by grind, Int.mul_emod, this]
  simp only [s23, s24, s46, s25, s33, s32, s44, s47, s39, s34]
  by_cases hy0 : y = 0
  · have bY := zY.2 hy0
    by_cases hx0 : x = 0
    · have bX := zX.2 hx0
      have hokt : ok = true := by rw [h3 hy0]; exact decide_eq_true hx0
      have hist : is = true := by rw [j3 (yy.2 hy0)]; exact decide_eq_true (xx.2 hx0)
      have b1 := f1 hokt
      have b3 := f3 hist
      rw [bX] at b1
      subst hokt hist
      simp only [ir11,rs11,gl,FTrue,pA,hal,hbl,sa,sb,hXX',hYY',hpp,hqq,lX,sX,qX,lY,sY,qY,k1,k2,k3,k4,g1,g2,g3,hV,hok,lV,sV,qV,g4,g5,hVV,g6,hW,g7,g8,g9,hX2,hY2,g10,hS,his,lS,sS,qS,g11,hSS,g12,hSY,g13,hSZ,g14,o1,hO,o2,hQ,o3,hsq,bY,bX,b1,b3,eq_self,BEq.rfl,s23,s24,s46,s25,s33,s32,s44,s47,s39,s34,F23,F24,F46,F25,F33,F32,F44,F47,F39,F34,qda,qc6,qaj,List.length_cons,List.length_nil,Nat.reduceAdd,Nat.le_refl,Nat.reduceLeDiff,Nat.reduceLT,true_and,and_true,↓qax,↓qay,↓qa0,↓qaz,↓qcs,↓qbj,↓qa1,↓qcl,↓qb3,↓qci,↓qcb,↓qce,↓qcf,↓qb4,↓qcd,↓qcj,↓qb5,↓qcg,↓qch,↓qb6,↓qcc,↓qca,↓qb9,↓qb8,↓qb7,↓qa5,↓qbc,↓qa6,↓qbd,↓qa7,↓qbe,↓qa8,↓qbf,↓qa9,↓qbg,↓qba,↓qbh,↓qbb,↓qbi,↓qb2,↓qck,↓qfc,↓qco,↓qcp,↓qcq,↓qcn,↓qcm,↓qbm,↓qbn,↓qb0,↓qbv,↓qbq,↓qbu,↓qbz,↓qbw,↓qby,↓qbx,↓qbr,↓qbp,↓qb1,↓qbs,↓qbt,↓qbo,↓qez,↓qey,↓qe3,↓qe5,↓qe4,↓qex,↓qew,↓qet,↓qeu,↓qe2,↓qe1,↓qe0,qc5,↓qeq,↓qer,↓qev,↓qc4,↓qc2,↓qc3,↓qe7,↓qe8,↓qe9,↓qe6,qaa,↓qes,↓qef,↓qeg,↓qfb,↓qfa,↓qei,↓qdk,↓qds,↓qd9,↓qea,↓qen,↓qeo,↓qdo,↓qdp,↓qdr,↓qdq,↓qdx,↓qep,↓qdv,↓qej,↓qdn,↓qed,↓qek,↓qel,↓qem,↓qd1,↓qd0,↓qd2,↓qd3,↓qd5,↓qdz,↓qd6,↓qd8,↓qd7,↓qdl,↓qdm,↓qdy,↓qaw,↓qdw,↓qee,↓qec,↓qdj,↓qeh,↓qeb,↓qd4,qav,List.drop_zero,Nat.sub_zero,qcy,qct,qcu,qdh,qat,qas,qaf,List.map_cons,List.map_nil,List.zip_cons_cons,List.zip_nil_right,List.zip_nil_left,qau,evs,evp,mkB,repB,blen,qae,qad,qac,qab,qc1,qc0,qdg,qdi,qde,qdf,qcx,qcz,qcv,qcw,↓qdc,↓qdb,↓qdd,↓qah,↓qag,↓qai,↓retQ,res,resAll,resOne,kill,apartOk,exp,injV,injB,pur,purs,purR,pursR,List.set_cons_zero,List.set_cons_succ,List.length_cons,List.length_nil,List.cons_append,List.nil_append,List.append_nil,List.append_assoc,List.length_append,List.reduceReplicate,Nat.reduceAdd,Nat.reduceMul,Nat.reduceSub,Nat.reduceEqDiff,Nat.reduceLT,Nat.zero_add,Nat.add_zero,Nat.mul_one,Int.reduceToNat,Int.toNat_natCast,Int.cast_ofNat_Int,Int.reduceLE,Int.reduceLT,Int.reduceEq,reduceCtorEq,↓reduceIte,Bool.true_eq_false,Bool.false_eq_true,Bool.not_true,Bool.not_false,true_and,and_true,and_assoc,qaj,sub1,qc8,qc7,qc9,List.length_replicate,Nat.le_refl,false_implies,true_implies,ne_eq,not_true_eq_false,not_false_eq_true,decide_true,decide_false,decide_eq_true_eq,decide_eq_false_iff_not,Bool.not_eq_true',Bool.not_eq_false']
      repeat (refine And.intro (by omega) ?_)
      simp only [out, outs, out1, pur, and_self]
    · have bX : ¬ bytesF X = [0, 0, 0, 0, 0, 0, 0, 0, 0, 0, 0, 0, 0, 0, 0, 0, 0, 0, 0, 0, 0, 0, 0, 0, 0, 0, 0, 0, 0, 0, 0, 0] := fun e => hx0 (zX.1 e)
      have hokt : ok = false := by rw [h3 hy0]; exact decide_eq_false hx0
      have hist : is = false := by rw [j3 (yy.2 hy0)]; exact decide_eq_false (fun e => hx0 (xx.1 e))
      have b2 := f2 hokt
      subst hokt hist
      simp only [ir11,rs11,gl,FTrue,pA,hal,hbl,sa,sb,hXX',hYY',hpp,hqq,lX,sX,qX,lY,sY,qY,k1,k2,k3,k4,g1,g2,g3,hV,hok,lV,sV,qV,g4,g5,hVV,g6,hW,g7,g8,g9,hX2,hY2,g10,hS,his,lS,sS,qS,g11,hSS,g12,hSY,g13,hSZ,g14,o1,hO,o2,hQ,o3,hsq,bY,bX,b2,eq_self,BEq.rfl,s23,s24,s46,s25,s33,s32,s44,s47,s39,s34,F23,F24,F46,F25,F33,F32,F44,F47,F39,F34,qda,qc6,qaj,List.length_cons,List.length_nil,Nat.reduceAdd,Nat.le_refl,Nat.reduceLeDiff,Nat.reduceLT,true_and,and_true,↓qax,↓qay,↓qa0,↓qaz,↓qcs,↓qbj,↓qa1,↓qcl,↓qb3,↓qci,↓qcb,↓qce,↓qcf,↓qb4,↓qcd,↓qcj,↓qb5,↓qcg,↓qch,↓qb6,↓qcc,↓qca,↓qb9,↓qb8,↓qb7,↓qa5,↓qbc,↓qa6,↓qbd,↓qa7,↓qbe,↓qa8,↓qbf,↓qa9,↓qbg,↓qba,↓qbh,↓qbb,↓qbi,↓qb2,↓qck,↓qfc,↓qco,↓qcp,↓qcq,↓qcn,↓qcm,↓qbm,↓qbn,↓qb0,↓qbv,↓qbq,↓qbu,↓qbz,↓qbw,↓qby,↓qbx,↓qbr,↓qbp,↓qb1,↓qbs,↓qbt,↓qbo,↓qez,↓qey,↓qe3,↓qe5,↓qe4,↓qex,↓qew,↓qet,↓qeu,↓qe2,↓qe1,↓qe0,qc5,↓qeq,↓qer,↓qev,↓qc4,↓qc2,↓qc3,↓qe7,↓qe8,↓qe9,↓qe6,qaa,↓qes,↓qef,↓qeg,↓qfb,↓qfa,↓qei,↓qdk,↓qds,↓qd9,↓qea,↓qen,↓qeo,↓qdo,↓qdp,↓qdr,↓qdq,↓qdx,↓qep,↓qdv,↓qej,↓qdn,↓qed,↓qek,↓qel,↓qem,↓qd1,↓qd0,↓qd2,↓qd3,↓qd5,↓qdz,↓qd6,↓qd8,↓qd7,↓qdl,↓qdm,↓qdy,↓qaw,↓qdw,↓qee,↓qec,↓qdj,↓qeh,↓qeb,↓qd4,qav,List.drop_zero,Nat.sub_zero,qcy,qct,qcu,qdh,qat,qas,qaf,List.map_cons,List.map_nil,List.zip_cons_cons,List.zip_nil_right,List.zip_nil_left,qau,evs,evp,mkB,repB,blen,qae,qad,qac,qab,qc1,qc0,qdg,qdi,qde,qdf,qcx,qcz,qcv,qcw,↓qdc,↓qdb,↓qdd,↓qah,↓qag,↓qai,↓retQ,res,resAll,resOne,kill,apartOk,exp,injV,injB,pur,purs,purR,pursR,List.set_cons_zero,List.set_cons_succ,List.length_cons,List.length_nil,List.cons_append,List.nil_append,List.append_nil,List.append_assoc,List.length_append,List.reduceReplicate,Nat.reduceAdd,Nat.reduceMul,Nat.reduceSub,Nat.reduceEqDiff,Nat.reduceLT,Nat.zero_add,Nat.add_zero,Nat.mul_one,Int.reduceToNat,Int.toNat_natCast,Int.cast_ofNat_Int,Int.reduceLE,Int.reduceLT,Int.reduceEq,reduceCtorEq,↓reduceIte,Bool.true_eq_false,Bool.false_eq_true,Bool.not_true,Bool.not_false,true_and,and_true,and_assoc,qaj,sub1,qc8,qc7,qc9,List.length_replicate,Nat.le_refl,false_implies,true_implies,ne_eq,not_true_eq_false,not_false_eq_true,decide_true,decide_false,decide_eq_true_eq,decide_eq_false_iff_not,Bool.not_eq_true',Bool.not_eq_false']
      repeat (refine And.intro (by omega) ?_)
      simp only [out, outs, out1, pur, and_self]
  · have bY : ¬ bytesF Y = [0, 0, 0, 0, 0, 0, 0, 0, 0, 0, 0, 0, 0, 0, 0, 0, 0, 0, 0, 0, 0, 0, 0, 0, 0, 0, 0, 0, 0, 0, 0, 0] := fun e => hy0 (zY.1 e)
    have hist := his2 hy0
    have b3 := f3 hist
    have ho := h4 hy0 _ (over_mul hyb.1 hyb.2 hy0 hxb)
    by_cases hx0 : x = 0
    · have bX := zX.2 hx0
      have hokt : ok = true := by
        rw [h4 hy0 0 (by rw [hx0, Int.zero_mul]; rfl)]
        exact sqv_sq 0
      have b1 := f1 hokt
      rw [bX] at b1
      subst hokt hist
      simp only [ir11,rs11,gl,FTrue,pA,hal,hbl,sa,sb,hXX',hYY',hpp,hqq,lX,sX,qX,lY,sY,qY,k1,k2,k3,k4,g1,g2,g3,hV,hok,lV,sV,qV,g4,g5,hVV,g6,hW,g7,g8,g9,hX2,hY2,g10,hS,his,lS,sS,qS,g11,hSS,g12,hSY,g13,hSZ,g14,o1,hO,o2,hQ,o3,hsq,bY,bX,b1,b3,eq_self,BEq.rfl,s23,s24,s46,s25,s33,s32,s44,s47,s39,s34,F23,F24,F46,F25,F33,F32,F44,F47,F39,F34,qda,qc6,qaj,List.length_cons,List.length_nil,Nat.reduceAdd,Nat.le_refl,Nat.reduceLeDiff,Nat.reduceLT,true_and,and_true,↓qax,↓qay,↓qa0,↓qaz,↓qcs,↓qbj,↓qa1,↓qcl,↓qb3,↓qci,↓qcb,↓qce,↓qcf,↓qb4,↓qcd,↓qcj,↓qb5,↓qcg,↓qch,↓qb6,↓qcc,↓qca,↓qb9,↓qb8,↓qb7,↓qa5,↓qbc,↓qa6,↓qbd,↓qa7,↓qbe,↓qa8,↓qbf,↓qa9,↓qbg,↓qba,↓qbh,↓qbb,↓qbi,↓qb2,↓qck,↓qfc,↓qco,↓qcp,↓qcq,↓qcn,↓qcm,↓qbm,↓qbn,↓qb0,↓qbv,↓qbq,↓qbu,↓qbz,↓qbw,↓qby,↓qbx,↓qbr,↓qbp,↓qb1,↓qbs,↓qbt,↓qbo,↓qez,↓qey,↓qe3,↓qe5,↓qe4,↓qex,↓qew,↓qet,↓qeu,↓qe2,↓qe1,↓qe0,qc5,↓qeq,↓qer,↓qev,↓qc4,↓qc2,↓qc3,↓qe7,↓qe8,↓qe9,↓qe6,qaa,↓qes,↓qef,↓qeg,↓qfb,↓qfa,↓qei,↓qdk,↓qds,↓qd9,↓qea,↓qen,↓qeo,↓qdo,↓qdp,↓qdr,↓qdq,↓qdx,↓qep,↓qdv,↓qej,↓qdn,↓qed,↓qek,↓qel,↓qem,↓qd1,↓qd0,↓qd2,↓qd3,↓qd5,↓qdz,↓qd6,↓qd8,↓qd7,↓qdl,↓qdm,↓qdy,↓qaw,↓qdw,↓qee,↓qec,↓qdj,↓qeh,↓qeb,↓qd4,qav,List.drop_zero,Nat.sub_zero,qcy,qct,qcu,qdh,qat,qas,qaf,List.map_cons,List.map_nil,List.zip_cons_cons,List.zip_nil_right,List.zip_nil_left,qau,evs,evp,mkB,repB,blen,qae,qad,qac,qab,qc1,qc0,qdg,qdi,qde,qdf,qcx,qcz,qcv,qcw,↓qdc,↓qdb,↓qdd,↓qah,↓qag,↓qai,↓retQ,res,resAll,resOne,kill,apartOk,exp,injV,injB,pur,purs,purR,pursR,List.set_cons_zero,List.set_cons_succ,List.length_cons,List.length_nil,List.cons_append,List.nil_append,List.append_nil,List.append_assoc,List.length_append,List.reduceReplicate,Nat.reduceAdd,Nat.reduceMul,Nat.reduceSub,Nat.reduceEqDiff,Nat.reduceLT,Nat.zero_add,Nat.add_zero,Nat.mul_one,Int.reduceToNat,Int.toNat_natCast,Int.cast_ofNat_Int,Int.reduceLE,Int.reduceLT,Int.reduceEq,reduceCtorEq,↓reduceIte,Bool.true_eq_false,Bool.false_eq_true,Bool.not_true,Bool.not_false,true_and,and_true,and_assoc,qaj,sub1,qc8,qc7,qc9,List.length_replicate,Nat.le_refl,false_implies,true_implies,ne_eq,not_true_eq_false,not_false_eq_true,decide_true,decide_false,decide_eq_true_eq,decide_eq_false_iff_not,Bool.not_eq_true',Bool.not_eq_false']
      repeat (refine And.intro (by omega) ?_)
      simp only [out, outs, out1, pur, and_self]
    · have bX : ¬ bytesF X = [0, 0, 0, 0, 0, 0, 0, 0, 0, 0, 0, 0, 0, 0, 0, 0, 0, 0, 0, 0, 0, 0, 0, 0, 0, 0, 0, 0, 0, 0, 0, 0] := fun e => hx0 (zX.1 e)
      rw [← ho] at hsq
      subst hist
      cases ok with
      | true =>
        have b1 := f1 rfl
        simp only [ir11,rs11,gl,FTrue,pA,hal,hbl,sa,sb,hXX',hYY',hpp,hqq,lX,sX,qX,lY,sY,qY,k1,k2,k3,k4,g1,g2,g3,hV,hok,lV,sV,qV,g4,g5,hVV,g6,hW,g7,g8,g9,hX2,hY2,g10,hS,his,lS,sS,qS,g11,hSS,g12,hSY,g13,hSZ,g14,o1,hO,o2,hQ,o3,hsq,bY,bX,b1,b3,eq_self,BEq.rfl,s23,s24,s46,s25,s33,s32,s44,s47,s39,s34,F23,F24,F46,F25,F33,F32,F44,F47,F39,F34,qda,qc6,qaj,List.length_cons,List.length_nil,Nat.reduceAdd,Nat.le_refl,Nat.reduceLeDiff,Nat.reduceLT,true_and,and_true,↓qax,↓qay,↓qa0,↓qaz,↓qcs,↓qbj,↓qa1,↓qcl,↓qb3,↓qci,↓qcb,↓qce,↓qcf,↓qb4,↓qcd,↓qcj,↓qb5,↓qcg,↓qch,↓qb6,↓qcc,↓qca,↓qb9,↓qb8,↓qb7,↓qa5,↓qbc,↓qa6,↓qbd,↓qa7,↓qbe,↓qa8,↓qbf,↓qa9,↓qbg,↓qba,↓qbh,↓qbb,↓qbi,↓qb2,↓qck,↓qfc,↓qco,↓qcp,↓qcq,↓qcn,↓qcm,↓qbm,↓qbn,↓qb0,↓qbv,↓qbq,↓qbu,↓qbz,↓qbw,↓qby,↓qbx,↓qbr,↓qbp,↓qb1,↓qbs,↓qbt,↓qbo,↓qez,↓qey,↓qe3,↓qe5,↓qe4,↓qex,↓qew,↓qet,↓qeu,↓qe2,↓qe1,↓qe0,qc5,↓qeq,↓qer,↓qev,↓qc4,↓qc2,↓qc3,↓qe7,↓qe8,↓qe9,↓qe6,qaa,↓qes,↓qef,↓qeg,↓qfb,↓qfa,↓qei,↓qdk,↓qds,↓qd9,↓qea,↓qen,↓qeo,↓qdo,↓qdp,↓qdr,↓qdq,↓qdx,↓qep,↓qdv,↓qej,↓qdn,↓qed,↓qek,↓qel,↓qem,↓qd1,↓qd0,↓qd2,↓qd3,↓qd5,↓qdz,↓qd6,↓qd8,↓qd7,↓qdl,↓qdm,↓qdy,↓qaw,↓qdw,↓qee,↓qec,↓qdj,↓qeh,↓qeb,↓qd4,qav,List.drop_zero,Nat.sub_zero,qcy,qct,qcu,qdh,qat,qas,qaf,List.map_cons,List.map_nil,List.zip_cons_cons,List.zip_nil_right,List.zip_nil_left,qau,evs,evp,mkB,repB,blen,qae,qad,qac,qab,qc1,qc0,qdg,qdi,qde,qdf,qcx,qcz,qcv,qcw,↓qdc,↓qdb,↓qdd,↓qah,↓qag,↓qai,↓retQ,res,resAll,resOne,kill,apartOk,exp,injV,injB,pur,purs,purR,pursR,List.set_cons_zero,List.set_cons_succ,List.length_cons,List.length_nil,List.cons_append,List.nil_append,List.append_nil,List.append_assoc,List.length_append,List.reduceReplicate,Nat.reduceAdd,Nat.reduceMul,Nat.reduceSub,Nat.reduceEqDiff,Nat.reduceLT,Nat.zero_add,Nat.add_zero,Nat.mul_one,Int.reduceToNat,Int.toNat_natCast,Int.cast_ofNat_Int,Int.reduceLE,Int.reduceLT,Int.reduceEq,reduceCtorEq,↓reduceIte,Bool.true_eq_false,Bool.false_eq_true,Bool.not_true,Bool.not_false,true_and,and_true,and_assoc,qaj,sub1,qc8,qc7,qc9,List.length_replicate,Nat.le_refl,false_implies,true_implies,ne_eq,not_true_eq_false,not_false_eq_true,decide_true,decide_false,decide_eq_true_eq,decide_eq_false_iff_not,Bool.not_eq_true',Bool.not_eq_false']
        repeat (refine And.intro (by omega) ?_)
        simp only [out, outs, out1, pur, and_self]
      | false =>
        have b2 := f2 rfl
        simp only [ir11,rs11,gl,FTrue,pA,hal,hbl,sa,sb,hXX',hYY',hpp,hqq,lX,sX,qX,lY,sY,qY,k1,k2,k3,k4,g1,g2,g3,hV,hok,lV,sV,qV,g4,g5,hVV,g6,hW,g7,g8,g9,hX2,hY2,g10,hS,his,lS,sS,qS,g11,hSS,g12,hSY,g13,hSZ,g14,o1,hO,o2,hQ,o3,hsq,bY,bX,b2,b3,eq_self,BEq.rfl,s23,s24,s46,s25,s33,s32,s44,s47,s39,s34,F23,F24,F46,F25,F33,F32,F44,F47,F39,F34,qda,qc6,qaj,List.length_cons,List.length_nil,Nat.reduceAdd,Nat.le_refl,Nat.reduceLeDiff,Nat.reduceLT,true_and,and_true,↓qax,↓qay,↓qa0,↓qaz,↓qcs,↓qbj,↓qa1,↓qcl,↓qb3,↓qci,↓qcb,↓qce,↓qcf,↓qb4,↓qcd,↓qcj,↓qb5,↓qcg,↓qch,↓qb6,↓qcc,↓qca,↓qb9,↓qb8,↓qb7,↓qa5,↓qbc,↓qa6,↓qbd,↓qa7,↓qbe,↓qa8,↓qbf,↓qa9,↓qbg,↓qba,↓qbh,↓qbb,↓qbi,↓qb2,↓qck,↓qfc,↓qco,↓qcp,↓qcq,↓qcn,↓qcm,↓qbm,↓qbn,↓qb0,↓qbv,↓qbq,↓qbu,↓qbz,↓qbw,↓qby,↓qbx,↓qbr,↓qbp,↓qb1,↓qbs,↓qbt,↓qbo,↓qez,↓qey,↓qe3,↓qe5,↓qe4,↓qex,↓qew,↓qet,↓qeu,↓qe2,↓qe1,↓qe0,qc5,↓qeq,↓qer,↓qev,↓qc4,↓qc2,↓qc3,↓qe7,↓qe8,↓qe9,↓qe6,qaa,↓qes,↓qef,↓qeg,↓qfb,↓qfa,↓qei,↓qdk,↓qds,↓qd9,↓qea,↓qen,↓qeo,↓qdo,↓qdp,↓qdr,↓qdq,↓qdx,↓qep,↓qdv,↓qej,↓qdn,↓qed,↓qek,↓qel,↓qem,↓qd1,↓qd0,↓qd2,↓qd3,↓qd5,↓qdz,↓qd6,↓qd8,↓qd7,↓qdl,↓qdm,↓qdy,↓qaw,↓qdw,↓qee,↓qec,↓qdj,↓qeh,↓qeb,↓qd4,qav,List.drop_zero,Nat.sub_zero,qcy,qct,qcu,qdh,qat,qas,qaf,List.map_cons,List.map_nil,List.zip_cons_cons,List.zip_nil_right,List.zip_nil_left,qau,evs,evp,mkB,repB,blen,qae,qad,qac,qab,qc1,qc0,qdg,qdi,qde,qdf,qcx,qcz,qcv,qcw,↓qdc,↓qdb,↓qdd,↓qah,↓qag,↓qai,↓retQ,res,resAll,resOne,kill,apartOk,exp,injV,injB,pur,purs,purR,pursR,List.set_cons_zero,List.set_cons_succ,List.length_cons,List.length_nil,List.cons_append,List.nil_append,List.append_nil,List.append_assoc,List.length_append,List.reduceReplicate,Nat.reduceAdd,Nat.reduceMul,Nat.reduceSub,Nat.reduceEqDiff,Nat.reduceLT,Nat.zero_add,Nat.add_zero,Nat.mul_one,Int.reduceToNat,Int.toNat_natCast,Int.cast_ofNat_Int,Int.reduceLE,Int.reduceLT,Int.reduceEq,reduceCtorEq,↓reduceIte,Bool.true_eq_false,Bool.false_eq_true,Bool.not_true,Bool.not_false,true_and,and_true,and_assoc,qaj,sub1,qc8,qc7,qc9,List.length_replicate,Nat.le_refl,false_implies,true_implies,ne_eq,not_true_eq_false,not_false_eq_true,decide_true,decide_false,decide_eq_true_eq,decide_eq_false_iff_not,Bool.not_eq_true',Bool.not_eq_false']
        repeat (refine And.intro (by omega) ?_)
        simp only [out, outs, out1, pur, and_self]
end Am
