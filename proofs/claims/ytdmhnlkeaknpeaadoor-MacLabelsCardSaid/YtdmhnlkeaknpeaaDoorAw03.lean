/-
Working texts: contracts of functions, and the numbers behind them.
-/
import Derived.Test.YtdmhnlkeaknpeaaDoorShF
import Derived.Test.YtdmhnlkeaknpeaaDoorShE
import Derived.Test.YtdmhnlkeaknpeaaDoorIrC
set_option linter.unusedSimpArgs false
set_option linter.unusedVariables false
set_option linter.unusedSectionVars false
set_option linter.unusedSimpArgs false
set_option linter.unusedVariables false
set_option maxRecDepth 20000
namespace Am
open Go.Proofs
theorem sum512_len (p : List Int) : (sum512 p).length = 64 := by rw [sum512, O512_len]; rfl
def abc : List Int := [97, 98, 99]
theorem abc_dig : Dig 256 [97, 98, 99] := fun x hx => by simp at hx; omega
theorem abc_parts : preParts [.v (.rcs 1 1 [.rsl 1 3 .u8 [97, 98, 99]])] := ⟨_, rfl, parts_cons (part_rsl' abc_dig rfl) parts_nil, by simp [flat], by simp⟩
theorem sub_abc : sub ([97, 98, 99] : List Int) 0 3 = [97, 98, 99] := rfl
theorem flat_abc : flat [.rsl 1 3 .u8 [97, 98, 99]] = abc := rfl
theorem aw256 : (getI (sum256 (padded abc 64)) 0 = 186 ∧ getI (sum256 (padded abc 64)) 1 = 120) ∧ getI (sum256 (padded abc 64)) 2 = 22 ∧ getI (sum256 (padded abc 64)) 3 = 191 := by decide +kernel
theorem aw512 : (getI (sum512 (padded abc 128)) 0 = 221 ∧ getI (sum512 (padded abc 128)) 1 = 175) ∧ getI (sum512 (padded abc 128)) 2 = 53 ∧ getI (sum512 (padded abc 128)) 3 = 161 := by decide +kernel
def s17 : Summ := sData [] preT FT
set_option maxHeartbeats 4000000 in
theorem ok17 {g : List Blk} [Ge gl g] : SumOK Tryd.prog g 17 s17 ∧ SumAbs s17 := by
  refine fsumA (l := [(18, s18), (20, s20)]) mixed gl_plain rfl Tryd.func17 comp17 compR17 nt17 (by simp only [List.mem_cons, List.not_mem_nil, or_false, forall_eq_or_imp, forall_eq]; exact ⟨ok18, ok20⟩) fun ds hd hA => ?_
  rw [hd]
  simp only [s18, s20]
  simp (maxSteps := 4000000) only [ir17,rs17,gl,FT,s18,s20,F18,F20,sub_abc,flat_abc,abc_parts,aw256.1.1,aw256.1.2,aw256.2.1,aw256.2.2,aw512.1.1,aw512.1.2,aw512.2.1,aw512.2.2,sum256_len,sum512_len,qda,qc6,qaj,List.length_cons,List.length_nil,Nat.reduceAdd,Nat.le_refl,Nat.reduceLeDiff,Nat.reduceLT,true_and,and_true,↓qax,↓qay,↓qa0,↓qaz,↓qcs,↓qbj,↓qa1,↓qcl,↓qb3,↓qci,↓qcb,↓qce,↓qcf,↓qb4,↓qcd,↓qcj,↓qb5,↓qcg,↓qch,↓qb6,↓qcc,↓qca,↓qb9,↓qb8,↓qb7,↓qa5,↓qbc,↓qa6,↓qbd,↓qa7,↓qbe,↓qa8,↓qbf,↓qa9,↓qbg,↓qba,↓qbh,↓qbb,↓qbi,↓qb2,↓qck,↓qfa,↓qco,↓qcp,↓qcq,↓qcn,↓qcm,↓qbm,↓qbn,↓qb0,↓qbv,↓qbq,↓qbu,↓qbz,↓qbw,↓qby,↓qbx,↓qbr,↓qbp,↓qb1,↓qbs,↓qbt,↓qbo,↓qex,↓qew,↓qe1,↓qe3,↓qe2,↓qev,↓qeu,↓qer,↓qes,↓qe0,↓qez,↓qey,qc5,↓qeo,↓qep,↓qet,↓qc4,↓qc2,↓qc3,↓qe5,↓qe6,↓qe7,↓qe4,qaa,↓qeq,↓qed,↓qee,↓qe9,↓qe8,↓qeg,↓qdj,↓qdr,↓qd8,↓qd9,↓qel,↓qem,↓qdn,↓qdo,↓qdq,↓qdp,↓qdw,↓qen,↓qdu,↓qeh,↓qdm,↓qeb,↓qei,↓qej,↓qek,↓qd0,↓qdz,↓qd1,↓qd2,↓qd4,↓qdy,↓qd5,↓qd7,↓qd6,↓qdk,↓qdl,↓qdx,↓qaw,↓qdv,↓qec,↓qef,↓qea,↓qd3,qav,List.drop_zero,Nat.sub_zero,qcy,qct,qcu,qdh,qat,qas,qaf,List.map_cons,List.map_nil,List.zip_cons_cons,List.zip_nil_right,List.zip_nil_left,qau,evs,evp,mkB,repB,blen,qae,qad,qac,qab,qc1,qc0,qdg,qdi,qde,qdf,qcx,qcz,qcv,qcw,↓qdc,↓qdb,↓qdd,↓qah,↓qag,↓qai,↓retQ,res,resAll,resOne,kill,apartOk,exp,injV,injB,pur,purs,purR,pursR,List.set_cons_zero,List.set_cons_succ,List.length_cons,List.length_nil,List.cons_append,List.nil_append,List.append_nil,List.append_assoc,List.length_append,List.reduceReplicate,Nat.reduceAdd,Nat.reduceMul,Nat.reduceSub,Nat.reduceEqDiff,Nat.reduceLT,Nat.zero_add,Nat.add_zero,Nat.mul_one,Int.reduceToNat,Int.toNat_natCast,Int.cast_ofNat_Int,Int.reduceLE,Int.reduceLT,Int.reduceEq,reduceCtorEq,↓reduceIte,Bool.true_eq_false,Bool.false_eq_true,Bool.not_true,Bool.not_false,true_and,and_true,and_assoc,qaj,sub1,qc8,qc7,qc9,List.length_replicate,Nat.le_refl,false_implies,true_implies,ne_eq,not_true_eq_false,not_false_eq_true,decide_true,decide_false,decide_eq_true_eq,decide_eq_false_iff_not,Bool.not_eq_true',Bool.not_eq_false']
  exact out_bool rfl
end Am
