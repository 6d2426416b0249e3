/-
Working texts: contracts of functions, and the numbers behind them.
-/
import Derived.Test.YtbmdhkfdigeebaaGcM
set_option linter.unusedSimpArgs false
set_option linter.unusedVariables false
set_option linter.unusedSectionVars false
set_option linter.unusedSimpArgs false
set_option linter.unusedVariables false
set_option maxRecDepth 20000
namespace Am
open Go.Proofs
/-! ### GcmSeals, GcmOpens -/
set_option maxHeartbeats 4000000 in
theorem lawGcmSeals : ∀ ds, preKN ds → Does Try.prog gl 9 (injV ds 4) (gl ++ injB true ds) (out (4 + (injB true ds).length) (FTrue09 ds)) := by
  refine fdoesA (l := [(19, s19), (20, s20), (21, s21), (16, s16), (22, s22)]) mixed gl_plain rfl Try.func9 comp9 compR9 nt9 (by simp only [List.mem_cons, List.not_mem_nil, or_false, forall_eq_or_imp, forall_eq]; exact ⟨ok19, ok20, ok21, ok16, ok22⟩) fun ds ⟨k, n, a, b, hd, hk, hn, ha, hb⟩ hA => ?_
  subst hd
  have hkl := hk.1
  have hnl := hn.1
  have sk : sub k 0 16 = k := qdk hkl
  have sn : sub n 0 12 = n := qdk hnl
  have sa := qdi a
  have sb := qdi b
  have qA : preE9 [] := rfl
  simp only [s19, s20, s21, s16, s22]
  by_cases h1 : 200 < a.length
  · have c1 : (200 : Int) < (a.length : Int) := by omega
    simp only [ir9,rs9,gl,FTrue09,F19,qA,hkl,hnl,sk,sn,c1,qdk,qdg,qaj,List.length_cons,List.length_nil,Nat.reduceAdd,Nat.le_refl,Nat.reduceLeDiff,Nat.reduceLT,true_and,and_true,↓qax,↓qay,↓qa0,↓qaz,↓qcy,↓qbj,↓qa1,↓qcr,↓qb3,↓qco,↓qcb,↓qck,↓qcl,↓qb4,↓qcj,↓qcp,↓qb5,↓qcm,↓qcn,↓qb6,↓qcc,↓qca,↓qb9,↓qb8,↓qb7,↓qa5,↓qbc,↓qa6,↓qbd,↓qa7,↓qbe,↓qa8,↓qbf,↓qa9,↓qbg,↓qba,↓qbh,↓qbb,↓qbi,↓qb2,↓qcq,↓qfq,↓qcu,↓qcv,↓qcw,↓qct,↓qcs,↓qbm,↓qbn,↓qb0,↓qbv,↓qbq,↓qbu,↓qbz,↓qbw,↓qby,↓qbx,↓qbr,↓qbp,↓qb1,↓qbs,↓qbt,↓qbo,↓qfd,↓qfc,↓qfh,↓qfj,↓qfi,↓qfb,↓qfa,↓qe7,↓qe8,↓qfg,↓qff,↓qfe,qdf,↓qe4,↓qe5,↓qe9,↓qdc,↓qda,↓qdb,↓qfl,↓qfm,↓qfn,↓qfk,qaa,↓qe6,↓qer,↓qes,↓qfp,↓qfo,↓qev,↓qdu,↓qd2,↓qej,↓qek,↓qe0,↓qe2,↓qdy,↓qdz,↓qd1,↓qd0,↓qd7,↓qe3,↓qd5,↓qew,↓qdx,↓qep,↓qex,↓qey,↓qez,↓qeb,↓qea,↓qec,↓qed,↓qef,↓qd9,↓qeg,↓qei,↓qeh,↓qdv,↓qdw,↓qd8,↓qaw,↓qd6,↓qeq,↓qem,↓qdt,↓qet,↓qen,↓qeo,↓qeu,↓qcd,↓qce,↓qcf,↓qcg,↓qch,↓qci,qdd,qde,qc1,qc2,↓qel,↓qee,qav,List.drop_zero,Nat.sub_zero,qc6,qcz,qc0,qdr,qat,qas,qaf,List.map_cons,List.map_nil,List.zip_cons_cons,List.zip_nil_right,List.zip_nil_left,qau,evs,evp,mkB,repB,blen,qae,qad,qac,qab,qc9,qc8,qdq,qds,qdo,qdp,qc5,qc7,qc3,qc4,↓qdm,↓qdl,↓qdn,↓qah,↓qag,↓qai,↓retQ,res,resAll,resOne,kill,apartOk,exp,injV,injB,pur,purs,purR,pursR,List.set_cons_zero,List.set_cons_succ,List.length_cons,List.length_nil,List.cons_append,List.nil_append,List.append_nil,List.append_assoc,List.length_append,List.reduceReplicate,Nat.reduceAdd,Nat.reduceMul,Nat.reduceSub,Nat.reduceEqDiff,Nat.reduceLT,Nat.zero_add,Nat.add_zero,Nat.mul_one,Int.reduceToNat,Int.toNat_natCast,Int.cast_ofNat_Int,Int.reduceLE,Int.reduceLT,Int.reduceEq,reduceCtorEq,↓reduceIte,Bool.true_eq_false,Bool.false_eq_true,Bool.not_true,Bool.not_false,true_and,and_true,and_assoc,qaj,sub1,qdi,qdh,qdj,List.length_replicate,Nat.le_refl,false_implies,true_implies,ne_eq,not_true_eq_false,not_false_eq_true,decide_true,decide_false,decide_eq_true_eq,decide_eq_false_iff_not,Bool.not_eq_true',Bool.not_eq_false']
    exact out_bool rfl
  have c1 : ¬ (200 : Int) < (a.length : Int) := by omega
  by_cases h2 : 200 < b.length
  · have c2 : (200 : Int) < (b.length : Int) := by omega
    simp only [ir9,rs9,gl,FTrue09,F19,qA,hkl,hnl,sk,sn,c1,c2,qdk,qdg,qaj,List.length_cons,List.length_nil,Nat.reduceAdd,Nat.le_refl,Nat.reduceLeDiff,Nat.reduceLT,true_and,and_true,↓qax,↓qay,↓qa0,↓qaz,↓qcy,↓qbj,↓qa1,↓qcr,↓qb3,↓qco,↓qcb,↓qck,↓qcl,↓qb4,↓qcj,↓qcp,↓qb5,↓qcm,↓qcn,↓qb6,↓qcc,↓qca,↓qb9,↓qb8,↓qb7,↓qa5,↓qbc,↓qa6,↓qbd,↓qa7,↓qbe,↓qa8,↓qbf,↓qa9,↓qbg,↓qba,↓qbh,↓qbb,↓qbi,↓qb2,↓qcq,↓qfq,↓qcu,↓qcv,↓qcw,↓qct,↓qcs,↓qbm,↓qbn,↓qb0,↓qbv,↓qbq,↓qbu,↓qbz,↓qbw,↓qby,↓qbx,↓qbr,↓qbp,↓qb1,↓qbs,↓qbt,↓qbo,↓qfd,↓qfc,↓qfh,↓qfj,↓qfi,↓qfb,↓qfa,↓qe7,↓qe8,↓qfg,↓qff,↓qfe,qdf,↓qe4,↓qe5,↓qe9,↓qdc,↓qda,↓qdb,↓qfl,↓qfm,↓qfn,↓qfk,qaa,↓qe6,↓qer,↓qes,↓qfp,↓qfo,↓qev,↓qdu,↓qd2,↓qej,↓qek,↓qe0,↓qe2,↓qdy,↓qdz,↓qd1,↓qd0,↓qd7,↓qe3,↓qd5,↓qew,↓qdx,↓qep,↓qex,↓qey,↓qez,↓qeb,↓qea,↓qec,↓qed,↓qef,↓qd9,↓qeg,↓qei,↓qeh,↓qdv,↓qdw,↓qd8,↓qaw,↓qd6,↓qeq,↓qem,↓qdt,↓qet,↓qen,↓qeo,↓qeu,↓qcd,↓qce,↓qcf,↓qcg,↓qch,↓qci,qdd,qde,qc1,qc2,↓qel,↓qee,qav,List.drop_zero,Nat.sub_zero,qc6,qcz,qc0,qdr,qat,qas,qaf,List.map_cons,List.map_nil,List.zip_cons_cons,List.zip_nil_right,List.zip_nil_left,qau,evs,evp,mkB,repB,blen,qae,qad,qac,qab,qc9,qc8,qdq,qds,qdo,qdp,qc5,qc7,qc3,qc4,↓qdm,↓qdl,↓qdn,↓qah,↓qag,↓qai,↓retQ,res,resAll,resOne,kill,apartOk,exp,injV,injB,pur,purs,purR,pursR,List.set_cons_zero,List.set_cons_succ,List.length_cons,List.length_nil,List.cons_append,List.nil_append,List.append_nil,List.append_assoc,List.length_append,List.reduceReplicate,Nat.reduceAdd,Nat.reduceMul,Nat.reduceSub,Nat.reduceEqDiff,Nat.reduceLT,Nat.zero_add,Nat.add_zero,Nat.mul_one,Int.reduceToNat,Int.toNat_natCast,Int.cast_ofNat_Int,Int.reduceLE,Int.reduceLT,Int.reduceEq,reduceCtorEq,↓reduceIte,Bool.true_eq_false,Bool.false_eq_true,Bool.not_true,Bool.not_false,true_and,and_true,and_assoc,qaj,sub1,qdi,qdh,qdj,List.length_replicate,Nat.le_refl,false_implies,true_implies,ne_eq,not_true_eq_false,not_false_eq_true,decide_true,decide_false,decide_eq_true_eq,decide_eq_false_iff_not,Bool.not_eq_true',Bool.not_eq_false']
    exact out_bool rfl
  have c2 : ¬ (200 : Int) < (b.length : Int) := by omega
  have hSd := seal_dig k n a b
  have hSl := seal_len k n a b
  have ho := opn_seal k n a b hk hn hb
  have q1 : preSl [.v (.ints .u8 k), .v (.ints .u8 n), .s .u8 a, .s .u8 b] := ⟨_, _, _, _, rfl, hk, hn, ha, by omega, hb, by omega⟩
  have f1 : F20 [.v (.ints .u8 k), .v (.ints .u8 n), .s .u8 a, .s .u8 b] = .one (.s .u8 (sealF k n a b)) := rfl
  have fo : ∀ z, F21 [.v (.ints .u8 k), .v (.ints .u8 n), .s .u8 a, .s .u8 z] = .many [.s .u8 (opnS k n a z), .v (.bool (opnB k n a z))] := fun z => rfl
  have f2 := fo (sealF k n a b)
  rw [ho.1, ho.2] at f2
  have q3 : preE [] := rfl
  have f3 : F16 [] = .one (.s .u8 (boxL 256)) := rfl
  have q4 : preSR [.s .u8 (boxL 256), .v (.ints .u8 k), .v (.ints .u8 n), .s .u8 a, .s .u8 b] := ⟨_, _, _, _, rfl, hk, hn, ha, by omega, hb, by omega⟩
  have f4 : F22 [.s .u8 (boxL 256), .v (.ints .u8 k), .v (.ints .u8 n), .s .u8 a, .s .u8 b] = .one (.s .u8 (sealF k n a b)) := rfl
  have hxl := boxL_len 256
  obtain ⟨X, hX⟩ : ∃ X, boxL 256 = X := ⟨_, rfl⟩
  rw [hX] at f3 q4 f4 hxl
  obtain ⟨S, hS⟩ : ∃ S, sealF k n a b = S := ⟨_, rfl⟩
  rw [hS] at f1 f2 f4 hSd hSl
  have q2 : preSl [.v (.ints .u8 k), .v (.ints .u8 n), .s .u8 a, .s .u8 S] := ⟨_, _, _, _, rfl, hk, hn, ha, by omega, hSd, by omega⟩
  have sS := qdi S
  rw [hSl] at sS
  have sX : sub X 0 256 = X := qdk hxl
  simp only [ir9,rs9,gl,FTrue09,F19,qA,hkl,hnl,sk,sn,sa,sb,c1,c2,q1,f1,q2,f2,q3,f3,q4,f4,hSl,sS,hxl,sX,eq_self,qdk,qdg,qaj,List.length_cons,List.length_nil,Nat.reduceAdd,Nat.le_refl,Nat.reduceLeDiff,Nat.reduceLT,true_and,and_true,↓qax,↓qay,↓qa0,↓qaz,↓qcy,↓qbj,↓qa1,↓qcr,↓qb3,↓qco,↓qcb,↓qck,↓qcl,↓qb4,↓qcj,↓qcp,↓qb5,↓qcm,↓qcn,↓qb6,↓qcc,↓qca,↓qb9,↓qb8,↓qb7,↓qa5,↓qbc,↓qa6,↓qbd,↓qa7,↓qbe,↓qa8,↓qbf,↓qa9,↓qbg,↓qba,↓qbh,↓qbb,↓qbi,↓qb2,↓qcq,↓qfq,↓qcu,↓qcv,↓qcw,↓qct,↓qcs,↓qbm,↓qbn,↓qb0,↓qbv,↓qbq,↓qbu,↓qbz,↓qbw,↓qby,↓qbx,↓qbr,↓qbp,↓qb1,↓qbs,↓qbt,↓qbo,↓qfd,↓qfc,↓qfh,↓qfj,↓qfi,↓qfb,↓qfa,↓qe7,↓qe8,↓qfg,↓qff,↓qfe,qdf,↓qe4,↓qe5,↓qe9,↓qdc,↓qda,↓qdb,↓qfl,↓qfm,↓qfn,↓qfk,qaa,↓qe6,↓qer,↓qes,↓qfp,↓qfo,↓qev,↓qdu,↓qd2,↓qej,↓qek,↓qe0,↓qe2,↓qdy,↓qdz,↓qd1,↓qd0,↓qd7,↓qe3,↓qd5,↓qew,↓qdx,↓qep,↓qex,↓qey,↓qez,↓qeb,↓qea,↓qec,↓qed,↓qef,↓qd9,↓qeg,↓qei,↓qeh,↓qdv,↓qdw,↓qd8,↓qaw,↓qd6,↓qeq,↓qem,↓qdt,↓qet,↓qen,↓qeo,↓qeu,↓qcd,↓qce,↓qcf,↓qcg,↓qch,↓qci,qdd,qde,qc1,qc2,↓qel,↓qee,qav,List.drop_zero,Nat.sub_zero,qc6,qcz,qc0,qdr,qat,qas,qaf,List.map_cons,List.map_nil,List.zip_cons_cons,List.zip_nil_right,List.zip_nil_left,qau,evs,evp,mkB,repB,blen,qae,qad,qac,qab,qc9,qc8,qdq,qds,qdo,qdp,qc5,qc7,qc3,qc4,↓qdm,↓qdl,↓qdn,↓qah,↓qag,↓qai,↓retQ,res,resAll,resOne,kill,apartOk,exp,injV,injB,pur,purs,purR,pursR,List.set_cons_zero,List.set_cons_succ,List.length_cons,List.length_nil,List.cons_append,List.nil_append,List.append_nil,List.append_assoc,List.length_append,List.reduceReplicate,Nat.reduceAdd,Nat.reduceMul,Nat.reduceSub,Nat.reduceEqDiff,Nat.reduceLT,Nat.zero_add,Nat.add_zero,Nat.mul_one,Int.reduceToNat,Int.toNat_natCast,Int.cast_ofNat_Int,Int.reduceLE,Int.reduceLT,Int.reduceEq,reduceCtorEq,↓reduceIte,Bool.true_eq_false,Bool.false_eq_true,Bool.not_true,Bool.not_false,true_and,and_true,and_assoc,qaj,sub1,qdi,qdh,qdj,List.length_replicate,Nat.le_refl,false_implies,true_implies,ne_eq,not_true_eq_false,not_false_eq_true,decide_true,decide_false,decide_eq_true_eq,decide_eq_false_iff_not,Bool.not_eq_true',Bool.not_eq_false']
  repeat (refine And.intro (by omega) ?_)
  exact out_bool rfl
def preOp (ds : List D) : Prop := ∃ (k n a b : List Int) (r : Bool), ds = [.v (.ints .u8 k), .v (.ints .u8 n), .s .u8 a, .s .u8 b, .v (.bool r)] ∧ B16 k ∧ B12 n ∧ Dig 256 a ∧ Dig 256 b
set_option maxHeartbeats 4000000 in
theorem lawGcmOpens : ∀ ds, preOp ds → Does Try.prog gl 10 (injV ds 4) (gl ++ injB true ds) (out (4 + (injB true ds).length) (FTrue09 ds)) := by
  refine fdoesA (l := [(19, s19), (21, s21), (16, s16), (22, s22)]) mixed gl_plain rfl Try.func10 comp10 compR10 nt10 (by simp only [List.mem_cons, List.not_mem_nil, or_false, forall_eq_or_imp, forall_eq]; exact ⟨ok19, ok21, ok16, ok22⟩) fun ds ⟨k, n, a, b, r, hd, hk, hn, ha, hb⟩ hA => ?_
  subst hd
  have hkl := hk.1
  have hnl := hn.1
  have sk : sub k 0 16 = k := qdk hkl
  have sn : sub n 0 12 = n := qdk hnl
  have sa := qdi a
  have sb := qdi b
  have qA : preE9 [] := rfl
  simp only [s19, s21, s16, s22]
  by_cases h1 : 200 < a.length
  · have c1 : (200 : Int) < (a.length : Int) := by omega
    simp only [ir10,rs10,gl,FTrue09,F19,qA,hkl,hnl,sk,sn,c1,qdk,qdg,qaj,List.length_cons,List.length_nil,Nat.reduceAdd,Nat.le_refl,Nat.reduceLeDiff,Nat.reduceLT,true_and,and_true,↓qax,↓qay,↓qa0,↓qaz,↓qcy,↓qbj,↓qa1,↓qcr,↓qb3,↓qco,↓qcb,↓qck,↓qcl,↓qb4,↓qcj,↓qcp,↓qb5,↓qcm,↓qcn,↓qb6,↓qcc,↓qca,↓qb9,↓qb8,↓qb7,↓qa5,↓qbc,↓qa6,↓qbd,↓qa7,↓qbe,↓qa8,↓qbf,↓qa9,↓qbg,↓qba,↓qbh,↓qbb,↓qbi,↓qb2,↓qcq,↓qfq,↓qcu,↓qcv,↓qcw,↓qct,↓qcs,↓qbm,↓qbn,↓qb0,↓qbv,↓qbq,↓qbu,↓qbz,↓qbw,↓qby,↓qbx,↓qbr,↓qbp,↓qb1,↓qbs,↓qbt,↓qbo,↓qfd,↓qfc,↓qfh,↓qfj,↓qfi,↓qfb,↓qfa,↓qe7,↓qe8,↓qfg,↓qff,↓qfe,qdf,↓qe4,↓qe5,↓qe9,↓qdc,↓qda,↓qdb,↓qfl,↓qfm,↓qfn,↓qfk,qaa,↓qe6,↓qer,↓qes,↓qfp,↓qfo,↓qev,↓qdu,↓qd2,↓qej,↓qek,↓qe0,↓qe2,↓qdy,↓qdz,↓qd1,↓qd0,↓qd7,↓qe3,↓qd5,↓qew,↓qdx,↓qep,↓qex,↓qey,↓qez,↓qeb,↓qea,↓qec,↓qed,↓qef,↓qd9,↓qeg,↓qei,↓qeh,↓qdv,↓qdw,↓qd8,↓qaw,↓qd6,↓qeq,↓qem,↓qdt,↓qet,↓qen,↓qeo,↓qeu,↓qcd,↓qce,↓qcf,↓qcg,↓qch,↓qci,qdd,qde,qc1,qc2,↓qel,↓qee,qav,List.drop_zero,Nat.sub_zero,qc6,qcz,qc0,qdr,qat,qas,qaf,List.map_cons,List.map_nil,List.zip_cons_cons,List.zip_nil_right,List.zip_nil_left,qau,evs,evp,mkB,repB,blen,qae,qad,qac,qab,qc9,qc8,qdq,qds,qdo,qdp,qc5,qc7,qc3,qc4,↓qdm,↓qdl,↓qdn,↓qah,↓qag,↓qai,↓retQ,res,resAll,resOne,kill,apartOk,exp,injV,injB,pur,purs,purR,pursR,List.set_cons_zero,List.set_cons_succ,List.length_cons,List.length_nil,List.cons_append,List.nil_append,List.append_nil,List.append_assoc,List.length_append,List.reduceReplicate,Nat.reduceAdd,Nat.reduceMul,Nat.reduceSub,Nat.reduceEqDiff,Nat.reduceLT,Nat.zero_add,Nat.add_zero,Nat.mul_one,Int.reduceToNat,Int.toNat_natCast,Int.cast_ofNat_Int,Int.reduceLE,Int.reduceLT,Int.reduceEq,reduceCtorEq,↓reduceIte,Bool.true_eq_false,Bool.false_eq_true,Bool.not_true,Bool.not_false,true_and,and_true,and_assoc,qaj,sub1,qdi,qdh,qdj,List.length_replicate,Nat.le_refl,false_implies,true_implies,ne_eq,not_true_eq_false,not_false_eq_true,decide_true,decide_false,decide_eq_true_eq,decide_eq_false_iff_not,Bool.not_eq_true',Bool.not_eq_false']
    exact out_bool rfl
  have c1 : ¬ (200 : Int) < (a.length : Int) := by omega
  by_cases h2 : 200 < b.length
  · have c2 : (200 : Int) < (b.length : Int) := by omega
    simp only [ir10,rs10,gl,FTrue09,F19,qA,hkl,hnl,sk,sn,c1,c2,qdk,qdg,qaj,List.length_cons,List.length_nil,Nat.reduceAdd,Nat.le_refl,Nat.reduceLeDiff,Nat.reduceLT,true_and,and_true,↓qax,↓qay,↓qa0,↓qaz,↓qcy,↓qbj,↓qa1,↓qcr,↓qb3,↓qco,↓qcb,↓qck,↓qcl,↓qb4,↓qcj,↓qcp,↓qb5,↓qcm,↓qcn,↓qb6,↓qcc,↓qca,↓qb9,↓qb8,↓qb7,↓qa5,↓qbc,↓qa6,↓qbd,↓qa7,↓qbe,↓qa8,↓qbf,↓qa9,↓qbg,↓qba,↓qbh,↓qbb,↓qbi,↓qb2,↓qcq,↓qfq,↓qcu,↓qcv,↓qcw,↓qct,↓qcs,↓qbm,↓qbn,↓qb0,↓qbv,↓qbq,↓qbu,↓qbz,↓qbw,↓qby,↓qbx,↓qbr,↓qbp,↓qb1,↓qbs,↓qbt,↓qbo,↓qfd,↓qfc,↓qfh,↓qfj,↓qfi,↓qfb,↓qfa,↓qe7,↓qe8,↓qfg,↓qff,↓qfe,qdf,↓qe4,↓qe5,↓qe9,↓qdc,↓qda,↓qdb,↓qfl,↓qfm,↓qfn,↓qfk,qaa,↓qe6,↓qer,↓qes,↓qfp,↓qfo,↓qev,↓qdu,↓qd2,↓qej,↓qek,↓qe0,↓qe2,↓qdy,↓qdz,↓qd1,↓qd0,↓qd7,↓qe3,↓qd5,↓qew,↓qdx,↓qep,↓qex,↓qey,↓qez,↓qeb,↓qea,↓qec,↓qed,↓qef,↓qd9,↓qeg,↓qei,↓qeh,↓qdv,↓qdw,↓qd8,↓qaw,↓qd6,↓qeq,↓qem,↓qdt,↓qet,↓qen,↓qeo,↓qeu,↓qcd,↓qce,↓qcf,↓qcg,↓qch,↓qci,qdd,qde,qc1,qc2,↓qel,↓qee,qav,List.drop_zero,Nat.sub_zero,qc6,qcz,qc0,qdr,qat,qas,qaf,List.map_cons,List.map_nil,List.zip_cons_cons,List.zip_nil_right,List.zip_nil_left,qau,evs,evp,mkB,repB,blen,qae,qad,qac,qab,qc9,qc8,qdq,qds,qdo,qdp,qc5,qc7,qc3,qc4,↓qdm,↓qdl,↓qdn,↓qah,↓qag,↓qai,↓retQ,res,resAll,resOne,kill,apartOk,exp,injV,injB,pur,purs,purR,pursR,List.set_cons_zero,List.set_cons_succ,List.length_cons,List.length_nil,List.cons_append,List.nil_append,List.append_nil,List.append_assoc,List.length_append,List.reduceReplicate,Nat.reduceAdd,Nat.reduceMul,Nat.reduceSub,Nat.reduceEqDiff,Nat.reduceLT,Nat.zero_add,Nat.add_zero,Nat.mul_one,Int.reduceToNat,Int.toNat_natCast,Int.cast_ofNat_Int,Int.reduceLE,Int.reduceLT,Int.reduceEq,reduceCtorEq,↓reduceIte,Bool.true_eq_false,Bool.false_eq_true,Bool.not_true,Bool.not_false,true_and,and_true,and_assoc,qaj,sub1,qdi,qdh,qdj,List.length_replicate,Nat.le_refl,false_implies,true_implies,ne_eq,not_true_eq_false,not_false_eq_true,decide_true,decide_false,decide_eq_true_eq,decide_eq_false_iff_not,Bool.not_eq_true',Bool.not_eq_false']
    exact out_bool rfl
  have c2 : ¬ (200 : Int) < (b.length : Int) := by omega
  have fo : ∀ z, F21 [.v (.ints .u8 k), .v (.ints .u8 n), .s .u8 a, .s .u8 z] = .many [.s .u8 (opnS k n a z), .v (.bool (opnB k n a z))] := fun z => rfl
  have q3 : preE [] := rfl
  have f3 : F16 [] = .one (.s .u8 (boxL 256)) := rfl
  have hxl := boxL_len 256
  have q4 : ∀ z, Dig 256 z → z.length ≤ 1000 → preSR [.s .u8 (boxL 256), .v (.ints .u8 k), .v (.ints .u8 n), .s .u8 a, .s .u8 z] := fun z hz hl => ⟨_, _, _, _, rfl, hk, hn, ha, by omega, hz, hl⟩
  have f4 : ∀ z, F22 [.s .u8 (boxL 256), .v (.ints .u8 k), .v (.ints .u8 n), .s .u8 a, .s .u8 z] = .one (.s .u8 (sealF k n a z)) := fun z => rfl
  obtain ⟨X, hX⟩ : ∃ X, boxL 256 = X := ⟨_, rfl⟩
  rw [hX] at f3 hxl
  simp only [hX] at q4 f4
  have sX : sub X 0 256 = X := qdk hxl
  cases r
  · have f2 := fo b
    have q2 : preSl [.v (.ints .u8 k), .v (.ints .u8 n), .s .u8 a, .s .u8 b] := ⟨_, _, _, _, rfl, hk, hn, ha, by omega, hb, by omega⟩
    cases hob : opnB k n a b
    · have eS : opnS k n a b = [] := by rw [opnS, hob]; rfl
      rw [hob, eS] at f2
      simp only [ir10,rs10,gl,FTrue09,F19,qA,hkl,hnl,sk,sn,sa,sb,c1,c2,q2,f2,qdk,qdg,qaj,List.length_cons,List.length_nil,Nat.reduceAdd,Nat.le_refl,Nat.reduceLeDiff,Nat.reduceLT,true_and,and_true,↓qax,↓qay,↓qa0,↓qaz,↓qcy,↓qbj,↓qa1,↓qcr,↓qb3,↓qco,↓qcb,↓qck,↓qcl,↓qb4,↓qcj,↓qcp,↓qb5,↓qcm,↓qcn,↓qb6,↓qcc,↓qca,↓qb9,↓qb8,↓qb7,↓qa5,↓qbc,↓qa6,↓qbd,↓qa7,↓qbe,↓qa8,↓qbf,↓qa9,↓qbg,↓qba,↓qbh,↓qbb,↓qbi,↓qb2,↓qcq,↓qfq,↓qcu,↓qcv,↓qcw,↓qct,↓qcs,↓qbm,↓qbn,↓qb0,↓qbv,↓qbq,↓qbu,↓qbz,↓qbw,↓qby,↓qbx,↓qbr,↓qbp,↓qb1,↓qbs,↓qbt,↓qbo,↓qfd,↓qfc,↓qfh,↓qfj,↓qfi,↓qfb,↓qfa,↓qe7,↓qe8,↓qfg,↓qff,↓qfe,qdf,↓qe4,↓qe5,↓qe9,↓qdc,↓qda,↓qdb,↓qfl,↓qfm,↓qfn,↓qfk,qaa,↓qe6,↓qer,↓qes,↓qfp,↓qfo,↓qev,↓qdu,↓qd2,↓qej,↓qek,↓qe0,↓qe2,↓qdy,↓qdz,↓qd1,↓qd0,↓qd7,↓qe3,↓qd5,↓qew,↓qdx,↓qep,↓qex,↓qey,↓qez,↓qeb,↓qea,↓qec,↓qed,↓qef,↓qd9,↓qeg,↓qei,↓qeh,↓qdv,↓qdw,↓qd8,↓qaw,↓qd6,↓qeq,↓qem,↓qdt,↓qet,↓qen,↓qeo,↓qeu,↓qcd,↓qce,↓qcf,↓qcg,↓qch,↓qci,qdd,qde,qc1,qc2,↓qel,↓qee,qav,List.drop_zero,Nat.sub_zero,qc6,qcz,qc0,qdr,qat,qas,qaf,List.map_cons,List.map_nil,List.zip_cons_cons,List.zip_nil_right,List.zip_nil_left,qau,evs,evp,mkB,repB,blen,qae,qad,qac,qab,qc9,qc8,qdq,qds,qdo,qdp,qc5,qc7,qc3,qc4,↓qdm,↓qdl,↓qdn,↓qah,↓qag,↓qai,↓retQ,res,resAll,resOne,kill,apartOk,exp,injV,injB,pur,purs,purR,pursR,List.set_cons_zero,List.set_cons_succ,List.length_cons,List.length_nil,List.cons_append,List.nil_append,List.append_nil,List.append_assoc,List.length_append,List.reduceReplicate,Nat.reduceAdd,Nat.reduceMul,Nat.reduceSub,Nat.reduceEqDiff,Nat.reduceLT,Nat.zero_add,Nat.add_zero,Nat.mul_one,Int.reduceToNat,Int.toNat_natCast,Int.cast_ofNat_Int,Int.reduceLE,Int.reduceLT,Int.reduceEq,reduceCtorEq,↓reduceIte,Bool.true_eq_false,Bool.false_eq_true,Bool.not_true,Bool.not_false,true_and,and_true,and_assoc,qaj,sub1,qdi,qdh,qdj,List.length_replicate,Nat.le_refl,false_implies,true_implies,ne_eq,not_true_eq_false,not_false_eq_true,decide_true,decide_false,decide_eq_true_eq,decide_eq_false_iff_not,Bool.not_eq_true',Bool.not_eq_false']
      repeat (refine And.intro (by omega) ?_)
      exact out_bool rfl
    · have hcl := opn_len hob hb
      have hcd := opn_dig (k := k) (n := n) (a := a) (b := b)
      have hs := seal_opn hk hn hb hob
      rw [hob] at f2
      obtain ⟨C, hC⟩ : ∃ C, opnS k n a b = C := ⟨_, rfl⟩
      rw [hC] at f2 hcl hcd hs
      have q5 := q4 C hcd (by omega)
      have f5 := f4 C
      rw [hs] at f5
      have sC := qdi C
      simp only [ir10,rs10,gl,FTrue09,F19,qA,hkl,hnl,sk,sn,sa,sb,c1,c2,q2,f2,q3,f3,hxl,sX,sC,q5,f5,eq_self,qdk,qdg,qaj,List.length_cons,List.length_nil,Nat.reduceAdd,Nat.le_refl,Nat.reduceLeDiff,Nat.reduceLT,true_and,and_true,↓qax,↓qay,↓qa0,↓qaz,↓qcy,↓qbj,↓qa1,↓qcr,↓qb3,↓qco,↓qcb,↓qck,↓qcl,↓qb4,↓qcj,↓qcp,↓qb5,↓qcm,↓qcn,↓qb6,↓qcc,↓qca,↓qb9,↓qb8,↓qb7,↓qa5,↓qbc,↓qa6,↓qbd,↓qa7,↓qbe,↓qa8,↓qbf,↓qa9,↓qbg,↓qba,↓qbh,↓qbb,↓qbi,↓qb2,↓qcq,↓qfq,↓qcu,↓qcv,↓qcw,↓qct,↓qcs,↓qbm,↓qbn,↓qb0,↓qbv,↓qbq,↓qbu,↓qbz,↓qbw,↓qby,↓qbx,↓qbr,↓qbp,↓qb1,↓qbs,↓qbt,↓qbo,↓qfd,↓qfc,↓qfh,↓qfj,↓qfi,↓qfb,↓qfa,↓qe7,↓qe8,↓qfg,↓qff,↓qfe,qdf,↓qe4,↓qe5,↓qe9,↓qdc,↓qda,↓qdb,↓qfl,↓qfm,↓qfn,↓qfk,qaa,↓qe6,↓qer,↓qes,↓qfp,↓qfo,↓qev,↓qdu,↓qd2,↓qej,↓qek,↓qe0,↓qe2,↓qdy,↓qdz,↓qd1,↓qd0,↓qd7,↓qe3,↓qd5,↓qew,↓qdx,↓qep,↓qex,↓qey,↓qez,↓qeb,↓qea,↓qec,↓qed,↓qef,↓qd9,↓qeg,↓qei,↓qeh,↓qdv,↓qdw,↓qd8,↓qaw,↓qd6,↓qeq,↓qem,↓qdt,↓qet,↓qen,↓qeo,↓qeu,↓qcd,↓qce,↓qcf,↓qcg,↓qch,↓qci,qdd,qde,qc1,qc2,↓qel,↓qee,qav,List.drop_zero,Nat.sub_zero,qc6,qcz,qc0,qdr,qat,qas,qaf,List.map_cons,List.map_nil,List.zip_cons_cons,List.zip_nil_right,List.zip_nil_left,qau,evs,evp,mkB,repB,blen,qae,qad,qac,qab,qc9,qc8,qdq,qds,qdo,qdp,qc5,qc7,qc3,qc4,↓qdm,↓qdl,↓qdn,↓qah,↓qag,↓qai,↓retQ,res,resAll,resOne,kill,apartOk,exp,injV,injB,pur,purs,purR,pursR,List.set_cons_zero,List.set_cons_succ,List.length_cons,List.length_nil,List.cons_append,List.nil_append,List.append_nil,List.append_assoc,List.length_append,List.reduceReplicate,Nat.reduceAdd,Nat.reduceMul,Nat.reduceSub,Nat.reduceEqDiff,Nat.reduceLT,Nat.zero_add,Nat.add_zero,Nat.mul_one,Int.reduceToNat,Int.toNat_natCast,Int.cast_ofNat_Int,Int.reduceLE,Int.reduceLT,Int.reduceEq,reduceCtorEq,↓reduceIte,Bool.true_eq_false,Bool.false_eq_true,Bool.not_true,Bool.not_false,true_and,and_true,and_assoc,qaj,sub1,qdi,qdh,qdj,List.length_replicate,Nat.le_refl,false_implies,true_implies,ne_eq,not_true_eq_false,not_false_eq_true,decide_true,decide_false,decide_eq_true_eq,decide_eq_false_iff_not,Bool.not_eq_true',Bool.not_eq_false']
      repeat (refine And.intro (by omega) ?_)
      exact out_bool rfl
  · have hSd := seal_dig k n a b
    have hSl := seal_len k n a b
    have ho := opn_seal k n a b hk hn hb
    have q5 := q4 b hb (by omega)
    have f5 := f4 b
    have f2 := fo (sealF k n a b)
    rw [ho.1, ho.2] at f2
    obtain ⟨S, hS⟩ : ∃ S, sealF k n a b = S := ⟨_, rfl⟩
    rw [hS] at f2 f5 hSd hSl
    have q2 : preSl [.v (.ints .u8 k), .v (.ints .u8 n), .s .u8 a, .s .u8 S] := ⟨_, _, _, _, rfl, hk, hn, ha, by omega, hSd, by omega⟩
    have sS := qdi S
    rw [hSl] at sS
    simp only [ir10,rs10,gl,FTrue09,F19,qA,hkl,hnl,sk,sn,sa,sb,c1,c2,q2,f2,q3,f3,hxl,sX,q5,f5,hSl,sS,eq_self,qdk,qdg,qaj,List.length_cons,List.length_nil,Nat.reduceAdd,Nat.le_refl,Nat.reduceLeDiff,Nat.reduceLT,true_and,and_true,↓qax,↓qay,↓qa0,↓qaz,↓qcy,↓qbj,↓qa1,↓qcr,↓qb3,↓qco,↓qcb,↓qck,↓qcl,↓qb4,↓qcj,↓qcp,↓qb5,↓qcm,↓qcn,↓qb6,↓qcc,↓qca,↓qb9,↓qb8,↓qb7,↓qa5,↓qbc,↓qa6,↓qbd,↓qa7,↓qbe,↓qa8,↓qbf,↓qa9,↓qbg,↓qba,↓qbh,↓qbb,↓qbi,↓qb2,↓qcq,↓qfq,↓qcu,↓qcv,↓qcw,↓qct,↓qcs,↓qbm,↓qbn,↓qb0,↓qbv,↓qbq,↓qbu,↓qbz,↓qbw,↓qby,↓qbx,↓qbr,↓qbp,↓qb1,↓qbs,↓qbt,↓qbo,↓qfd,↓qfc,↓qfh,↓qfj,↓qfi,↓qfb,↓qfa,↓qe7,↓qe8,↓qfg,↓qff,↓qfe,qdf,↓qe4,↓qe5,↓qe9,↓qdc,↓qda,↓qdb,↓qfl,↓qfm,↓qfn,↓qfk,qaa,↓qe6,↓qer,↓qes,↓qfp,↓qfo,↓qev,↓qdu,↓qd2,↓qej,↓qek,↓qe0,↓qe2,↓qdy,↓qdz,↓qd1,↓qd0,↓qd7,↓qe3,↓qd5,↓qew,↓qdx,↓qep,↓qex,↓qey,↓qez,↓qeb,↓qea,↓qec,↓qed,↓qef,↓qd9,↓qeg,↓qei,↓qeh,↓qdv,↓qdw,↓qd8,↓qaw,↓qd6,↓qeq,↓qem,↓qdt,↓qet,↓qen,↓qeo,↓qeu,↓qcd,↓qce,↓qcf,↓qcg,↓qch,↓qci,qdd,qde,qc1,qc2,↓qel,↓qee,qav,List.drop_zero,Nat.sub_zero,qc6,qcz,qc0,qdr,qat,qas,qaf,List.map_cons,List.map_nil,List.zip_cons_cons,List.zip_nil_right,List.zip_nil_left,qau,evs,evp,mkB,repB,blen,qae,qad,qac,qab,qc9,qc8,qdq,qds,qdo,qdp,qc5,qc7,qc3,qc4,↓qdm,↓qdl,↓qdn,↓qah,↓qag,↓qai,↓retQ,res,resAll,resOne,kill,apartOk,exp,injV,injB,pur,purs,purR,pursR,List.set_cons_zero,List.set_cons_succ,List.length_cons,List.length_nil,List.cons_append,List.nil_append,List.append_nil,List.append_assoc,List.length_append,List.reduceReplicate,Nat.reduceAdd,Nat.reduceMul,Nat.reduceSub,Nat.reduceEqDiff,Nat.reduceLT,Nat.zero_add,Nat.add_zero,Nat.mul_one,Int.reduceToNat,Int.toNat_natCast,Int.cast_ofNat_Int,Int.reduceLE,Int.reduceLT,Int.reduceEq,reduceCtorEq,↓reduceIte,Bool.true_eq_false,Bool.false_eq_true,Bool.not_true,Bool.not_false,true_and,and_true,and_assoc,qaj,sub1,qdi,qdh,qdj,List.length_replicate,Nat.le_refl,false_implies,true_implies,ne_eq,not_true_eq_false,not_false_eq_true,decide_true,decide_false,decide_eq_true_eq,decide_eq_false_iff_not,Bool.not_eq_true',Bool.not_eq_false']
    repeat (refine And.intro (by omega) ?_)
    exact out_bool rfl
end Am
