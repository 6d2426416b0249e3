/-
Working texts: contracts of functions, and the numbers behind them.
-/
import Derived.Test.YtbmdhkfdigeebaaAeS
set_option linter.unusedSimpArgs false
set_option linter.unusedVariables false
set_option linter.unusedSectionVars false
set_option linter.unusedSimpArgs false
set_option linter.unusedVariables false
set_option maxRecDepth 20000
namespace Am
open Go.Proofs
/-! ### The laws -/
theorem kA_ok : B16 kA := ⟨rfl, fun x hx => by simp only [kA, List.mem_cons, List.not_mem_nil, or_false] at hx; omega⟩
theorem bA_ok : B16 bA := ⟨rfl, fun x hx => by simp only [bA, List.mem_cons, List.not_mem_nil, or_false] at hx; omega⟩
theorem z16_ok : B16 z16 := ⟨rfl, fun x hx => by rw [(List.mem_replicate.1 hx).2]; decide⟩
def fkA (l : List Int) (i : Nat) : List Int := l.set i (i : Int)
def fbA (l : List Int) (i : Nat) : List Int := l.set i (17 * (i : Int))
theorem fk_len (n : Nat) : (itr fkA z16 n).length = 16 := itr_inv (fun _ (l : List Int) => l.length = 16) rfl (fun n l h => by simp [fkA, h]) n
theorem fb_len (n : Nat) : (itr fbA z16 n).length = 16 := itr_inv (fun _ (l : List Int) => l.length = 16) rfl (fun n l h => by simp [fbA, h]) n
def F13 : List D → Out
  | _ => .one (.v (.bool true))
def s13 : Summ := sData [] preE F13
set_option maxHeartbeats 4000000 in
theorem ok13 {g : List Blk} [Ge gl g] : SumOK Try.prog g 13 s13 ∧ SumAbs s13 := by
  refine fsumA (l := [(14, s14)]) mixed gl_plain rfl Try.func13 comp13 compR13 nt13 (by simp only [List.mem_cons, List.not_mem_nil, or_false, forall_eq]; exact ok14) fun ds hd hA => ?_
  rw [hd]
  simp only [s14]
  simp only [ir13,rs13,gl,F13,qdk,qdg,qaj,List.length_cons,List.length_nil,Nat.reduceAdd,Nat.le_refl,Nat.reduceLeDiff,Nat.reduceLT,true_and,and_true,↓qax,↓qay,↓qa0,↓qaz,↓qcy,↓qbj,↓qa1,↓qcr,↓qb3,↓qco,↓qcb,↓qck,↓qcl,↓qb4,↓qcj,↓qcp,↓qb5,↓qcm,↓qcn,↓qb6,↓qcc,↓qca,↓qb9,↓qb8,↓qb7,↓qa5,↓qbc,↓qa6,↓qbd,↓qa7,↓qbe,↓qa8,↓qbf,↓qa9,↓qbg,↓qba,↓qbh,↓qbb,↓qbi,↓qb2,↓qcq,↓qfp,↓qcu,↓qcv,↓qcw,↓qct,↓qcs,↓qbm,↓qbn,↓qb0,↓qbv,↓qbq,↓qbu,↓qbz,↓qbw,↓qby,↓qbx,↓qbr,↓qbp,↓qb1,↓qbs,↓qbt,↓qbo,↓qfc,↓qfb,↓qfg,↓qfi,↓qfh,↓qfa,↓qe9,↓qe6,↓qe7,↓qff,↓qfe,↓qfd,qdf,↓qe3,↓qe4,↓qe8,↓qdc,↓qda,↓qdb,↓qfk,↓qfl,↓qfm,↓qfj,qaa,↓qe5,↓qer,↓qes,↓qfo,↓qfn,↓qev,↓qdu,↓qd2,↓qej,↓qek,↓qe0,↓qe1,↓qdy,↓qdz,↓qd1,↓qd0,↓qd7,↓qe2,↓qd5,↓qew,↓qdx,↓qep,↓qex,↓qey,↓qez,↓qeb,↓qea,↓qec,↓qed,↓qef,↓qd9,↓qeg,↓qei,↓qeh,↓qdv,↓qdw,↓qd8,↓qaw,↓qd6,↓qeq,↓qem,↓qdt,↓qet,↓qel,↓qee,qav,List.drop_zero,Nat.sub_zero,qc6,qcz,qc0,qdr,qat,qas,qaf,List.map_cons,List.map_nil,List.zip_cons_cons,List.zip_nil_right,List.zip_nil_left,qau,evs,evp,mkB,repB,blen,qae,qad,qac,qab,qc9,qc8,qdq,qds,qdo,qdp,qc5,qc7,qc3,qc4,↓qdm,↓qdl,↓qdn,↓qah,↓qag,↓qai,↓retQ,res,resAll,resOne,kill,apartOk,exp,injV,injB,pur,purs,purR,pursR,List.set_cons_zero,List.set_cons_succ,List.length_cons,List.length_nil,List.cons_append,List.nil_append,List.append_nil,List.append_assoc,List.length_append,List.reduceReplicate,Nat.reduceAdd,Nat.reduceMul,Nat.reduceSub,Nat.reduceEqDiff,Nat.reduceLT,Nat.zero_add,Nat.add_zero,Nat.mul_one,Int.reduceToNat,Int.toNat_natCast,Int.cast_ofNat_Int,Int.reduceLE,Int.reduceLT,Int.reduceEq,reduceCtorEq,↓reduceIte,Bool.true_eq_false,Bool.false_eq_true,Bool.not_true,Bool.not_false,true_and,and_true,and_assoc,qaj,sub1,qdi,qdh,qdj,List.length_replicate,Nat.le_refl,false_implies,true_implies,ne_eq,not_true_eq_false,not_false_eq_true,decide_true,decide_false,decide_eq_true_eq,decide_eq_false_iff_not,Bool.not_eq_true',Bool.not_eq_false']
  refine awp_loopA (n := 39) hA [1, 2, 5] (by decide +kernel) (fun i : Nat => [.ptr 4 0, .ptr 5 0, .int .i64 i])
    (fun i => [.dead, .dead, .dead, .dead, .ints false .u8 (itr fkA z16 i), .ints false .u8 (itr fbA z16 i)]) (fun i => i ≤ 16) (fun i => 16 - i) 0 ?_ (by omega) ?_
  · refine Hd.same ?_
    simp only [itr,z16,↓qax,↓qay,↓qa0,↓qaz,↓qcy,↓qbj,↓qa1,↓qcr,↓qb3,↓qco,↓qcb,↓qck,↓qcl,↓qb4,↓qcj,↓qcp,↓qb5,↓qcm,↓qcn,↓qb6,↓qcc,↓qca,↓qb9,↓qb8,↓qb7,↓qa5,↓qbc,↓qa6,↓qbd,↓qa7,↓qbe,↓qa8,↓qbf,↓qa9,↓qbg,↓qba,↓qbh,↓qbb,↓qbi,↓qb2,↓qcq,↓qfp,↓qcu,↓qcv,↓qcw,↓qct,↓qcs,↓qbm,↓qbn,↓qb0,↓qbv,↓qbq,↓qbu,↓qbz,↓qbw,↓qby,↓qbx,↓qbr,↓qbp,↓qb1,↓qbs,↓qbt,↓qbo,↓qfc,↓qfb,↓qfg,↓qfi,↓qfh,↓qfa,↓qe9,↓qe6,↓qe7,↓qff,↓qfe,↓qfd,qdf,↓qe3,↓qe4,↓qe8,↓qdc,↓qda,↓qdb,↓qfk,↓qfl,↓qfm,↓qfj,qaa,↓qe5,↓qer,↓qes,↓qfo,↓qfn,↓qev,↓qdu,↓qd2,↓qej,↓qek,↓qe0,↓qe1,↓qdy,↓qdz,↓qd1,↓qd0,↓qd7,↓qe2,↓qd5,↓qew,↓qdx,↓qep,↓qex,↓qey,↓qez,↓qeb,↓qea,↓qec,↓qed,↓qef,↓qd9,↓qeg,↓qei,↓qeh,↓qdv,↓qdw,↓qd8,↓qaw,↓qd6,↓qeq,↓qem,↓qdt,↓qet,↓qel,↓qee,qav,List.drop_zero,Nat.sub_zero,qc6,qcz,qc0,qdr,qat,qas,qaf,List.map_cons,List.map_nil,List.zip_cons_cons,List.zip_nil_right,List.zip_nil_left,qau,evs,evp,mkB,repB,blen,qae,qad,qac,qab,qc9,qc8,qdq,qds,qdo,qdp,qc5,qc7,qc3,qc4,↓qdm,↓qdl,↓qdn,↓qah,↓qag,↓qai,↓retQ,res,resAll,resOne,kill,apartOk,exp,injV,injB,pur,purs,purR,pursR,List.set_cons_zero,List.set_cons_succ,List.length_cons,List.length_nil,List.cons_append,List.nil_append,List.append_nil,List.append_assoc,List.length_append,List.reduceReplicate,Nat.reduceAdd,Nat.reduceMul,Nat.reduceSub,Nat.reduceEqDiff,Nat.reduceLT,Nat.zero_add,Nat.add_zero,Nat.mul_one,Int.reduceToNat,Int.toNat_natCast,Int.cast_ofNat_Int,Int.reduceLE,Int.reduceLT,Int.reduceEq,reduceCtorEq,↓reduceIte,Bool.true_eq_false,Bool.false_eq_true,Bool.not_true,Bool.not_false,true_and,and_true,and_assoc,qaj,sub1,qdi,qdh,qdj,List.length_replicate,Nat.le_refl,false_implies,true_implies,ne_eq,not_true_eq_false,not_false_eq_true,decide_true,decide_false,decide_eq_true_eq,decide_eq_false_iff_not,Bool.not_eq_true',Bool.not_eq_false']
  intro i hi K hK
  have l1 := fk_len i
  have l2 := fb_len i
  simp only [s14]
  by_cases hli : i < 16
  · have d1 : (i : Int) < 16 := by omega
    have wi : Go.IntKind.i64.wrap ((i : Int) + 1) = ((i + 1 : Nat) : Int) := by rw [wrap_i64]; omega
    have w8 : Go.IntKind.u8.wrap (i : Int) = (i : Int) := by rw [wrap_u8]; omega
    have w17 : Go.IntKind.i64.wrap (17 * (i : Int)) = 17 * (i : Int) := by rw [wrap_i64]; omega
    have w18 : Go.IntKind.u8.wrap (17 * (i : Int)) = 17 * (i : Int) := by rw [wrap_u8]; omega
    have e1 : itr fkA z16 (i + 1) = (itr fkA z16 i).set i (i : Int) := rfl
    have e2 : itr fbA z16 (i + 1) = (itr fbA z16 i).set i (17 * (i : Int)) := rfl
    obtain ⟨u, hu⟩ : ∃ u, itr fkA z16 i = u := ⟨_, rfl⟩
    obtain ⟨v, hv⟩ : ∃ v, itr fbA z16 i = v := ⟨_, rfl⟩
    rw [hu] at e1 l1 ⊢
    rw [hv] at e2 l2 ⊢
    simp only [d1,wi,w8,w17,w18,hli,l1,l2,qdk,qdg,qaj,List.length_cons,List.length_nil,Nat.reduceAdd,Nat.le_refl,Nat.reduceLeDiff,Nat.reduceLT,true_and,and_true,↓qax,↓qay,↓qa0,↓qaz,↓qcy,↓qbj,↓qa1,↓qcr,↓qb3,↓qco,↓qcb,↓qck,↓qcl,↓qb4,↓qcj,↓qcp,↓qb5,↓qcm,↓qcn,↓qb6,↓qcc,↓qca,↓qb9,↓qb8,↓qb7,↓qa5,↓qbc,↓qa6,↓qbd,↓qa7,↓qbe,↓qa8,↓qbf,↓qa9,↓qbg,↓qba,↓qbh,↓qbb,↓qbi,↓qb2,↓qcq,↓qfp,↓qcu,↓qcv,↓qcw,↓qct,↓qcs,↓qbm,↓qbn,↓qb0,↓qbv,↓qbq,↓qbu,↓qbz,↓qbw,↓qby,↓qbx,↓qbr,↓qbp,↓qb1,↓qbs,↓qbt,↓qbo,↓qfc,↓qfb,↓qfg,↓qfi,↓qfh,↓qfa,↓qe9,↓qe6,↓qe7,↓qff,↓qfe,↓qfd,qdf,↓qe3,↓qe4,↓qe8,↓qdc,↓qda,↓qdb,↓qfk,↓qfl,↓qfm,↓qfj,qaa,↓qe5,↓qer,↓qes,↓qfo,↓qfn,↓qev,↓qdu,↓qd2,↓qej,↓qek,↓qe0,↓qe1,↓qdy,↓qdz,↓qd1,↓qd0,↓qd7,↓qe2,↓qd5,↓qew,↓qdx,↓qep,↓qex,↓qey,↓qez,↓qeb,↓qea,↓qec,↓qed,↓qef,↓qd9,↓qeg,↓qei,↓qeh,↓qdv,↓qdw,↓qd8,↓qaw,↓qd6,↓qeq,↓qem,↓qdt,↓qet,↓qel,↓qee,qav,List.drop_zero,Nat.sub_zero,qc6,qcz,qc0,qdr,qat,qas,qaf,List.map_cons,List.map_nil,List.zip_cons_cons,List.zip_nil_right,List.zip_nil_left,qau,evs,evp,mkB,repB,blen,qae,qad,qac,qab,qc9,qc8,qdq,qds,qdo,qdp,qc5,qc7,qc3,qc4,↓qdm,↓qdl,↓qdn,↓qah,↓qag,↓qai,↓retQ,res,resAll,resOne,kill,apartOk,exp,injV,injB,pur,purs,purR,pursR,List.set_cons_zero,List.set_cons_succ,List.length_cons,List.length_nil,List.cons_append,List.nil_append,List.append_nil,List.append_assoc,List.length_append,List.reduceReplicate,Nat.reduceAdd,Nat.reduceMul,Nat.reduceSub,Nat.reduceEqDiff,Nat.reduceLT,Nat.zero_add,Nat.add_zero,Nat.mul_one,Int.reduceToNat,Int.toNat_natCast,Int.cast_ofNat_Int,Int.reduceLE,Int.reduceLT,Int.reduceEq,reduceCtorEq,↓reduceIte,Bool.true_eq_false,Bool.false_eq_true,Bool.not_true,Bool.not_false,true_and,and_true,and_assoc,qaj,sub1,qdi,qdh,qdj,List.length_replicate,Nat.le_refl,false_implies,true_implies,ne_eq,not_true_eq_false,not_false_eq_true,decide_true,decide_false,decide_eq_true_eq,decide_eq_false_iff_not,Bool.not_eq_true',Bool.not_eq_false']
    repeat (refine And.intro (by omega) ?_)
    refine ⟨i + 1, hK _ (by omega) (by omega), Hd.same ?_⟩
    simp only [e1,e2,↓qax,↓qay,↓qa0,↓qaz,↓qcy,↓qbj,↓qa1,↓qcr,↓qb3,↓qco,↓qcb,↓qck,↓qcl,↓qb4,↓qcj,↓qcp,↓qb5,↓qcm,↓qcn,↓qb6,↓qcc,↓qca,↓qb9,↓qb8,↓qb7,↓qa5,↓qbc,↓qa6,↓qbd,↓qa7,↓qbe,↓qa8,↓qbf,↓qa9,↓qbg,↓qba,↓qbh,↓qbb,↓qbi,↓qb2,↓qcq,↓qfp,↓qcu,↓qcv,↓qcw,↓qct,↓qcs,↓qbm,↓qbn,↓qb0,↓qbv,↓qbq,↓qbu,↓qbz,↓qbw,↓qby,↓qbx,↓qbr,↓qbp,↓qb1,↓qbs,↓qbt,↓qbo,↓qfc,↓qfb,↓qfg,↓qfi,↓qfh,↓qfa,↓qe9,↓qe6,↓qe7,↓qff,↓qfe,↓qfd,qdf,↓qe3,↓qe4,↓qe8,↓qdc,↓qda,↓qdb,↓qfk,↓qfl,↓qfm,↓qfj,qaa,↓qe5,↓qer,↓qes,↓qfo,↓qfn,↓qev,↓qdu,↓qd2,↓qej,↓qek,↓qe0,↓qe1,↓qdy,↓qdz,↓qd1,↓qd0,↓qd7,↓qe2,↓qd5,↓qew,↓qdx,↓qep,↓qex,↓qey,↓qez,↓qeb,↓qea,↓qec,↓qed,↓qef,↓qd9,↓qeg,↓qei,↓qeh,↓qdv,↓qdw,↓qd8,↓qaw,↓qd6,↓qeq,↓qem,↓qdt,↓qet,↓qel,↓qee,qav,List.drop_zero,Nat.sub_zero,qc6,qcz,qc0,qdr,qat,qas,qaf,List.map_cons,List.map_nil,List.zip_cons_cons,List.zip_nil_right,List.zip_nil_left,qau,evs,evp,mkB,repB,blen,qae,qad,qac,qab,qc9,qc8,qdq,qds,qdo,qdp,qc5,qc7,qc3,qc4,↓qdm,↓qdl,↓qdn,↓qah,↓qag,↓qai,↓retQ,res,resAll,resOne,kill,apartOk,exp,injV,injB,pur,purs,purR,pursR,List.set_cons_zero,List.set_cons_succ,List.length_cons,List.length_nil,List.cons_append,List.nil_append,List.append_nil,List.append_assoc,List.length_append,List.reduceReplicate,Nat.reduceAdd,Nat.reduceMul,Nat.reduceSub,Nat.reduceEqDiff,Nat.reduceLT,Nat.zero_add,Nat.add_zero,Nat.mul_one,Int.reduceToNat,Int.toNat_natCast,Int.cast_ofNat_Int,Int.reduceLE,Int.reduceLT,Int.reduceEq,reduceCtorEq,↓reduceIte,Bool.true_eq_false,Bool.false_eq_true,Bool.not_true,Bool.not_false,true_and,and_true,and_assoc,qaj,sub1,qdi,qdh,qdj,List.length_replicate,Nat.le_refl,false_implies,true_implies,ne_eq,not_true_eq_false,not_false_eq_true,decide_true,decide_false,decide_eq_true_eq,decide_eq_false_iff_not,Bool.not_eq_true',Bool.not_eq_false']
  obtain rfl : i = 16 := by omega
  have d1 : ¬((16 : Nat) : Int) < 16 := by omega
  have e1 : itr fkA z16 16 = kA := by decide +kernel
  have e2 : itr fbA z16 16 = bA := by decide +kernel
  have q : preEncB [.v (.ints .u8 kA), .v (.ints .u8 bA)] := ⟨_, _, rfl, kA_ok, bA_ok⟩
  have hR := enc_ok kA_ok bA_ok
  have hw := aw08
  rw [← box_SB, ← aes_eq kA_ok bA_ok] at hw
  have hF : F14 [.v (.ints .u8 kA), .v (.ints .u8 bA)] = .one (.v (.ints .u8 (encF (newF kA) bA))) := rfl
  obtain ⟨R, hRe⟩ : ∃ R, encF (newF kA) bA = R := ⟨_, rfl⟩
  rw [hRe] at hR hw hF
  have hRl := hR.1
  have hk := kA_ok.1
  have hb := bA_ok.1
  have sk : sub kA 0 16 = kA := rfl
  have sb : sub bA 0 16 = bA := rfl
  have pR : spl [0, 0, 0, 0, 0, 0, 0, 0, 0, 0, 0, 0, 0, 0, 0, 0] 0 R = R := qdg (by simp [hRl])
  simp only [d1,e1,e2,hk,hb,sk,sb,q,hF,hRl,pR,hw.1.1.1,hw.1.1.2,hw.1.2,hw.2,s14,qdk,qdg,qaj,List.length_cons,List.length_nil,Nat.reduceAdd,Nat.le_refl,Nat.reduceLeDiff,Nat.reduceLT,true_and,and_true,↓qax,↓qay,↓qa0,↓qaz,↓qcy,↓qbj,↓qa1,↓qcr,↓qb3,↓qco,↓qcb,↓qck,↓qcl,↓qb4,↓qcj,↓qcp,↓qb5,↓qcm,↓qcn,↓qb6,↓qcc,↓qca,↓qb9,↓qb8,↓qb7,↓qa5,↓qbc,↓qa6,↓qbd,↓qa7,↓qbe,↓qa8,↓qbf,↓qa9,↓qbg,↓qba,↓qbh,↓qbb,↓qbi,↓qb2,↓qcq,↓qfp,↓qcu,↓qcv,↓qcw,↓qct,↓qcs,↓qbm,↓qbn,↓qb0,↓qbv,↓qbq,↓qbu,↓qbz,↓qbw,↓qby,↓qbx,↓qbr,↓qbp,↓qb1,↓qbs,↓qbt,↓qbo,↓qfc,↓qfb,↓qfg,↓qfi,↓qfh,↓qfa,↓qe9,↓qe6,↓qe7,↓qff,↓qfe,↓qfd,qdf,↓qe3,↓qe4,↓qe8,↓qdc,↓qda,↓qdb,↓qfk,↓qfl,↓qfm,↓qfj,qaa,↓qe5,↓qer,↓qes,↓qfo,↓qfn,↓qev,↓qdu,↓qd2,↓qej,↓qek,↓qe0,↓qe1,↓qdy,↓qdz,↓qd1,↓qd0,↓qd7,↓qe2,↓qd5,↓qew,↓qdx,↓qep,↓qex,↓qey,↓qez,↓qeb,↓qea,↓qec,↓qed,↓qef,↓qd9,↓qeg,↓qei,↓qeh,↓qdv,↓qdw,↓qd8,↓qaw,↓qd6,↓qeq,↓qem,↓qdt,↓qet,↓qel,↓qee,qav,List.drop_zero,Nat.sub_zero,qc6,qcz,qc0,qdr,qat,qas,qaf,List.map_cons,List.map_nil,List.zip_cons_cons,List.zip_nil_right,List.zip_nil_left,qau,evs,evp,mkB,repB,blen,qae,qad,qac,qab,qc9,qc8,qdq,qds,qdo,qdp,qc5,qc7,qc3,qc4,↓qdm,↓qdl,↓qdn,↓qah,↓qag,↓qai,↓retQ,res,resAll,resOne,kill,apartOk,exp,injV,injB,pur,purs,purR,pursR,List.set_cons_zero,List.set_cons_succ,List.length_cons,List.length_nil,List.cons_append,List.nil_append,List.append_nil,List.append_assoc,List.length_append,List.reduceReplicate,Nat.reduceAdd,Nat.reduceMul,Nat.reduceSub,Nat.reduceEqDiff,Nat.reduceLT,Nat.zero_add,Nat.add_zero,Nat.mul_one,Int.reduceToNat,Int.toNat_natCast,Int.cast_ofNat_Int,Int.reduceLE,Int.reduceLT,Int.reduceEq,reduceCtorEq,↓reduceIte,Bool.true_eq_false,Bool.false_eq_true,Bool.not_true,Bool.not_false,true_and,and_true,and_assoc,qaj,sub1,qdi,qdh,qdj,List.length_replicate,Nat.le_refl,false_implies,true_implies,ne_eq,not_true_eq_false,not_false_eq_true,decide_true,decide_false,decide_eq_true_eq,decide_eq_false_iff_not,Bool.not_eq_true',Bool.not_eq_false']
  repeat (refine And.intro (by omega) ?_)
  first | exact out_bool rfl | simp only [out, outs, out1, pur, and_self]
def preKB (ds : List D) : Prop := ∃ k b : List Int, ds = [.v (.ints .u8 k), .v (.ints .u8 b)] ∧ B16 k ∧ B16 b
def FTrue08 : List D → Out := fun _ => .one (.v (.bool true))
set_option maxHeartbeats 4000000 in
theorem lawAesEncrypts : ∀ ds, preKB ds → Does Try.prog gl 3 (injV ds 4) (gl ++ injB true ds) (out (4 + (injB true ds).length) (FTrue08 ds)) := by
  refine fdoesA (l := [(13, s13), (14, s14), (16, s16), (15, s15)]) mixed gl_plain rfl Try.func3 comp3 compR3 nt3 (by simp only [List.mem_cons, List.not_mem_nil, or_false, forall_eq_or_imp, forall_eq]; exact ⟨ok13, ok14, ok16, ok15⟩) fun ds ⟨k, b, hd, hk, hb⟩ hA => ?_
  subst hd
  have hkl := hk.1
  have hbl := hb.1
  have sk : sub k 0 16 = k := qdk hkl
  have sb : sub b 0 16 = b := qdk hbl
  have q1 : preEncB [.v (.ints .u8 k), .v (.ints .u8 b)] := ⟨_, _, rfl, hk, hb⟩
  have qA : preE [] := rfl
  have hR := enc_ok hk hb
  have he := aes_eq hk hb
  have hxl := boxL_len 256
  have f1 : F14 [.v (.ints .u8 k), .v (.ints .u8 b)] = .one (.v (.ints .u8 (encF (newF k) b))) := rfl
  have hox := boxL_ok
  have f2 : F16 [] = .one (.s .u8 (boxL 256)) := rfl
  obtain ⟨X, hX⟩ : ∃ X, boxL 256 = X := ⟨_, rfl⟩
  rw [hX] at hxl he hox f2
  have q2 : preEncR [.s .u8 X, .v (.ints .u8 k), .v (.ints .u8 b)] := ⟨_, _, _, rfl, hox, hk, hb⟩
  have f3 : F15 [.s .u8 X, .v (.ints .u8 k), .v (.ints .u8 b)] = .one (.v (.ints .u8 (encR X k b))) := rfl
  rw [← he] at f3
  obtain ⟨R, hRe⟩ : ∃ R, encF (newF k) b = R := ⟨_, rfl⟩
  rw [hRe] at hR f1 f3
  have hRl := hR.1
  have sX : sub X 0 256 = X := qdk hxl
  simp only [s13, s14, s16, s15]
  simp only [ir3,rs3,gl,FTrue08,F13,qA,q1,q2,f1,f2,f3,hkl,hbl,hxl,hRl,sk,sb,sX,eq_self,s13,s14,s16,s15,qdk,qdg,qaj,List.length_cons,List.length_nil,Nat.reduceAdd,Nat.le_refl,Nat.reduceLeDiff,Nat.reduceLT,true_and,and_true,↓qax,↓qay,↓qa0,↓qaz,↓qcy,↓qbj,↓qa1,↓qcr,↓qb3,↓qco,↓qcb,↓qck,↓qcl,↓qb4,↓qcj,↓qcp,↓qb5,↓qcm,↓qcn,↓qb6,↓qcc,↓qca,↓qb9,↓qb8,↓qb7,↓qa5,↓qbc,↓qa6,↓qbd,↓qa7,↓qbe,↓qa8,↓qbf,↓qa9,↓qbg,↓qba,↓qbh,↓qbb,↓qbi,↓qb2,↓qcq,↓qfp,↓qcu,↓qcv,↓qcw,↓qct,↓qcs,↓qbm,↓qbn,↓qb0,↓qbv,↓qbq,↓qbu,↓qbz,↓qbw,↓qby,↓qbx,↓qbr,↓qbp,↓qb1,↓qbs,↓qbt,↓qbo,↓qfc,↓qfb,↓qfg,↓qfi,↓qfh,↓qfa,↓qe9,↓qe6,↓qe7,↓qff,↓qfe,↓qfd,qdf,↓qe3,↓qe4,↓qe8,↓qdc,↓qda,↓qdb,↓qfk,↓qfl,↓qfm,↓qfj,qaa,↓qe5,↓qer,↓qes,↓qfo,↓qfn,↓qev,↓qdu,↓qd2,↓qej,↓qek,↓qe0,↓qe1,↓qdy,↓qdz,↓qd1,↓qd0,↓qd7,↓qe2,↓qd5,↓qew,↓qdx,↓qep,↓qex,↓qey,↓qez,↓qeb,↓qea,↓qec,↓qed,↓qef,↓qd9,↓qeg,↓qei,↓qeh,↓qdv,↓qdw,↓qd8,↓qaw,↓qd6,↓qeq,↓qem,↓qdt,↓qet,↓qel,↓qee,qav,List.drop_zero,Nat.sub_zero,qc6,qcz,qc0,qdr,qat,qas,qaf,List.map_cons,List.map_nil,List.zip_cons_cons,List.zip_nil_right,List.zip_nil_left,qau,evs,evp,mkB,repB,blen,qae,qad,qac,qab,qc9,qc8,qdq,qds,qdo,qdp,qc5,qc7,qc3,qc4,↓qdm,↓qdl,↓qdn,↓qah,↓qag,↓qai,↓retQ,res,resAll,resOne,kill,apartOk,exp,injV,injB,pur,purs,purR,pursR,List.set_cons_zero,List.set_cons_succ,List.length_cons,List.length_nil,List.cons_append,List.nil_append,List.append_nil,List.append_assoc,List.length_append,List.reduceReplicate,Nat.reduceAdd,Nat.reduceMul,Nat.reduceSub,Nat.reduceEqDiff,Nat.reduceLT,Nat.zero_add,Nat.add_zero,Nat.mul_one,Int.reduceToNat,Int.toNat_natCast,Int.cast_ofNat_Int,Int.reduceLE,Int.reduceLT,Int.reduceEq,reduceCtorEq,↓reduceIte,Bool.true_eq_false,Bool.false_eq_true,Bool.not_true,Bool.not_false,true_and,and_true,and_assoc,qaj,sub1,qdi,qdh,qdj,List.length_replicate,Nat.le_refl,false_implies,true_implies,ne_eq,not_true_eq_false,not_false_eq_true,decide_true,decide_false,decide_eq_true_eq,decide_eq_false_iff_not,Bool.not_eq_true',Bool.not_eq_false']
  repeat (refine And.intro (by omega) ?_)
  simp only [out, outs, out1, pur, and_self]
def preBit (ds : List D) : Prop := ∃ x : Int, ds = [.v (.int .u8 x)] ∧ 0 ≤ x ∧ x < 256
theorem shr_bd : ∀ m : Nat, m < 8 → 0 ≤ iShr .u8 128 (m : Int) ∧ iShr .u8 128 (m : Int) < 256 := by decide +kernel
set_option maxHeartbeats 4000000 in
theorem lawAesKnown : ∀ ds, preBit ds → Does Try.prog gl 4 (injV ds 4) (gl ++ injB true ds) (out (4 + (injB true ds).length) (FTrue08 ds)) := by
  refine fdoesA (l := [(13, s13), (14, s14), (16, s16), (15, s15)]) mixed gl_plain rfl Try.func4 comp4 compR4 nt4 (by simp only [List.mem_cons, List.not_mem_nil, or_false, forall_eq_or_imp, forall_eq]; exact ⟨ok13, ok14, ok16, ok15⟩) fun ds ⟨x, hd, hx⟩ hA => ?_
  obtain ⟨n, rfl⟩ := Int.eq_ofNat_of_zero_le hx.1
  have hn : n < 256 := by omega
  subst hd
  have qA : preE [] := rfl
  have n8 : ¬ (8 : Int) = 0 := by decide
  have n16 : ¬ (16 : Int) = 0 := by decide
  have wd : Go.IntKind.u8.wrap ((n : Int).tdiv 8) = ((n / 8 : Nat) : Int) := by
    rw [Int.tdiv_eq_ediv_of_nonneg (by omega), wrap_u8]; omega
  have t8 : (n : Int).tmod 8 = ((n % 8 : Nat) : Int) := tmod_nat (k := 8)
  have h16 : n / 8 % 16 < 16 := Nat.mod_lt _ (by decide)
  have hv := shr_bd (n % 8) (Nat.mod_lt _ (by decide))
  obtain ⟨v, hve⟩ : ∃ v, iShr .u8 128 ((n % 8 : Nat) : Int) = v := ⟨_, rfl⟩
  rw [hve] at hv
  have hz : B16 [0, 0, 0, 0, 0, 0, 0, 0, 0, 0, 0, 0, 0, 0, 0, 0] := z16_ok
  have hZ : B16 ([0, 0, 0, 0, 0, 0, 0, 0, 0, 0, 0, 0, 0, 0, 0, 0].set (n / 8 % 16) v) := ⟨by rw [List.length_set]; rfl, hz.2.set _ hv.1 hv.2⟩
  have zl : ([0, 0, 0, 0, 0, 0, 0, 0, 0, 0, 0, 0, 0, 0, 0, 0] : List Int).length = 16 := rfl
  have sz : sub ([0, 0, 0, 0, 0, 0, 0, 0, 0, 0, 0, 0, 0, 0, 0, 0] : List Int) 0 16 = [0, 0, 0, 0, 0, 0, 0, 0, 0, 0, 0, 0, 0, 0, 0, 0] := rfl
  obtain ⟨Z, hZe⟩ : ∃ Z, ([0, 0, 0, 0, 0, 0, 0, 0, 0, 0, 0, 0, 0, 0, 0, 0] : List Int).set (n / 8 % 16) v = Z := ⟨_, rfl⟩
  rw [hZe] at hZ
  have Zl := hZ.1
  have sZ : sub Z 0 16 = Z := qdk Zl
  have qa : preEncB [.v (.ints .u8 [0, 0, 0, 0, 0, 0, 0, 0, 0, 0, 0, 0, 0, 0, 0, 0]), .v (.ints .u8 Z)] := ⟨_, _, rfl, hz, hZ⟩
  have qb : preEncB [.v (.ints .u8 Z), .v (.ints .u8 [0, 0, 0, 0, 0, 0, 0, 0, 0, 0, 0, 0, 0, 0, 0, 0])] := ⟨_, _, rfl, hZ, hz⟩
  have hRa := enc_ok hz hZ
  have hea := aes_eq hz hZ
  have hRb := enc_ok hZ hz
  have heb := aes_eq hZ hz
  have hxl := boxL_len 256
  have fa : F14 [.v (.ints .u8 [0, 0, 0, 0, 0, 0, 0, 0, 0, 0, 0, 0, 0, 0, 0, 0]), .v (.ints .u8 Z)] = .one (.v (.ints .u8 (encF (newF [0, 0, 0, 0, 0, 0, 0, 0, 0, 0, 0, 0, 0, 0, 0, 0]) Z))) := rfl
  have fb : F14 [.v (.ints .u8 Z), .v (.ints .u8 [0, 0, 0, 0, 0, 0, 0, 0, 0, 0, 0, 0, 0, 0, 0, 0])] = .one (.v (.ints .u8 (encF (newF Z) [0, 0, 0, 0, 0, 0, 0, 0, 0, 0, 0, 0, 0, 0, 0, 0]))) := rfl
  have hox := boxL_ok
  have f2 : F16 [] = .one (.s .u8 (boxL 256)) := rfl
  obtain ⟨X, hX⟩ : ∃ X, boxL 256 = X := ⟨_, rfl⟩
  rw [hX] at hxl hea heb hox f2
  have q2a : preEncR [.s .u8 X, .v (.ints .u8 [0, 0, 0, 0, 0, 0, 0, 0, 0, 0, 0, 0, 0, 0, 0, 0]), .v (.ints .u8 Z)] := ⟨_, _, _, rfl, hox, hz, hZ⟩
  have q2b : preEncR [.s .u8 X, .v (.ints .u8 Z), .v (.ints .u8 [0, 0, 0, 0, 0, 0, 0, 0, 0, 0, 0, 0, 0, 0, 0, 0])] := ⟨_, _, _, rfl, hox, hZ, hz⟩
  have f3a : F15 [.s .u8 X, .v (.ints .u8 [0, 0, 0, 0, 0, 0, 0, 0, 0, 0, 0, 0, 0, 0, 0, 0]), .v (.ints .u8 Z)] = .one (.v (.ints .u8 (encR X [0, 0, 0, 0, 0, 0, 0, 0, 0, 0, 0, 0, 0, 0, 0, 0] Z))) := rfl
  have f3b : F15 [.s .u8 X, .v (.ints .u8 Z), .v (.ints .u8 [0, 0, 0, 0, 0, 0, 0, 0, 0, 0, 0, 0, 0, 0, 0, 0])] = .one (.v (.ints .u8 (encR X Z [0, 0, 0, 0, 0, 0, 0, 0, 0, 0, 0, 0, 0, 0, 0, 0]))) := rfl
  rw [← hea] at f3a
  rw [← heb] at f3b
  obtain ⟨R, hRe⟩ : ∃ R, encF (newF [0, 0, 0, 0, 0, 0, 0, 0, 0, 0, 0, 0, 0, 0, 0, 0]) Z = R := ⟨_, rfl⟩
  obtain ⟨T, hTe⟩ : ∃ T, encF (newF Z) [0, 0, 0, 0, 0, 0, 0, 0, 0, 0, 0, 0, 0, 0, 0, 0] = T := ⟨_, rfl⟩
  rw [hRe] at hRa fa f3a
  rw [hTe] at hRb fb f3b
  have hRl := hRa.1
  have hTl := hRb.1
  have sX : sub X 0 256 = X := qdk hxl
  simp only [s13, s14, s16, s15]
  simp only [ir4,rs4,gl,FTrue08,F13,qA,n8,n16,wd,t8,tmod16,h16,hve,hZe,Zl,sZ,sz,zl,qa,qb,q2a,q2b,fa,fb,f2,f3a,f3b,hRl,hTl,hxl,sX,eq_self,s13,s14,s16,s15,qdk,qdg,qaj,List.length_cons,List.length_nil,Nat.reduceAdd,Nat.le_refl,Nat.reduceLeDiff,Nat.reduceLT,true_and,and_true,↓qax,↓qay,↓qa0,↓qaz,↓qcy,↓qbj,↓qa1,↓qcr,↓qb3,↓qco,↓qcb,↓qck,↓qcl,↓qb4,↓qcj,↓qcp,↓qb5,↓qcm,↓qcn,↓qb6,↓qcc,↓qca,↓qb9,↓qb8,↓qb7,↓qa5,↓qbc,↓qa6,↓qbd,↓qa7,↓qbe,↓qa8,↓qbf,↓qa9,↓qbg,↓qba,↓qbh,↓qbb,↓qbi,↓qb2,↓qcq,↓qfp,↓qcu,↓qcv,↓qcw,↓qct,↓qcs,↓qbm,↓qbn,↓qb0,↓qbv,↓qbq,↓qbu,↓qbz,↓qbw,↓qby,↓qbx,↓qbr,↓qbp,↓qb1,↓qbs,↓qbt,↓qbo,↓qfc,↓qfb,↓qfg,↓qfi,↓qfh,↓qfa,↓qe9,↓qe6,↓qe7,↓qff,↓qfe,↓qfd,qdf,↓qe3,↓qe4,↓qe8,↓qdc,↓qda,↓qdb,↓qfk,↓qfl,↓qfm,↓qfj,qaa,↓qe5,↓qer,↓qes,↓qfo,↓qfn,↓qev,↓qdu,↓qd2,↓qej,↓qek,↓qe0,↓qe1,↓qdy,↓qdz,↓qd1,↓qd0,↓qd7,↓qe2,↓qd5,↓qew,↓qdx,↓qep,↓qex,↓qey,↓qez,↓qeb,↓qea,↓qec,↓qed,↓qef,↓qd9,↓qeg,↓qei,↓qeh,↓qdv,↓qdw,↓qd8,↓qaw,↓qd6,↓qeq,↓qem,↓qdt,↓qet,↓qel,↓qee,qav,List.drop_zero,Nat.sub_zero,qc6,qcz,qc0,qdr,qat,qas,qaf,List.map_cons,List.map_nil,List.zip_cons_cons,List.zip_nil_right,List.zip_nil_left,qau,evs,evp,mkB,repB,blen,qae,qad,qac,qab,qc9,qc8,qdq,qds,qdo,qdp,qc5,qc7,qc3,qc4,↓qdm,↓qdl,↓qdn,↓qah,↓qag,↓qai,↓retQ,res,resAll,resOne,kill,apartOk,exp,injV,injB,pur,purs,purR,pursR,List.set_cons_zero,List.set_cons_succ,List.length_cons,List.length_nil,List.cons_append,List.nil_append,List.append_nil,List.append_assoc,List.length_append,List.reduceReplicate,Nat.reduceAdd,Nat.reduceMul,Nat.reduceSub,Nat.reduceEqDiff,Nat.reduceLT,Nat.zero_add,Nat.add_zero,Nat.mul_one,Int.reduceToNat,Int.toNat_natCast,Int.cast_ofNat_Int,Int.reduceLE,Int.reduceLT,Int.reduceEq,reduceCtorEq,↓reduceIte,Bool.true_eq_false,Bool.false_eq_true,Bool.not_true,Bool.not_false,true_and,and_true,and_assoc,qaj,sub1,qdi,qdh,qdj,List.length_replicate,Nat.le_refl,false_implies,true_implies,ne_eq,not_true_eq_false,not_false_eq_true,decide_true,decide_false,decide_eq_true_eq,decide_eq_false_iff_not,Bool.not_eq_true',Bool.not_eq_false']
  repeat (refine And.intro (by omega) ?_)
  simp only [out, outs, out1, pur, and_self]
end Am
set_option linter.unusedSimpArgs false
set_option linter.unusedVariables false
set_option maxRecDepth 20000
namespace Am
open Go.Proofs
/-! ### A round can be undone -/
theorem nx_cancel {a b c : Nat} (h : a ^^^ c = b ^^^ c) : a = b := by
  have := congrArg (· ^^^ c) h
  simpa [Nat.xor_assoc] using this
theorem nx_zero {a b : Nat} (h : a ^^^ b = 0) : a = b := nx_cancel (c := b) (by rw [h, Nat.xor_self])
theorem x_inj {a b c : Int} (ha : Bt a) (hb : Bt b) (hc : Bt c) (h : bXor .u8 a c = bXor .u8 b c) : a = b := by
  obtain ⟨a, rfl, ka⟩ := ha.nat
  obtain ⟨b, rfl, kb⟩ := hb.nat
  obtain ⟨c, rfl, kc⟩ := hc.nat
  rw [xn ka kc, xn kb kc] at h
  rw [nx_cancel (Int.ofNat.inj h)]
theorem jn_inj {a b c : List Int} (ha : B16 a) (hb : B16 b) (hc : B16 c) (h : jn a c 16 = jn b c 16) : a = b := by
  refine getI_ext (ha.1.trans hb.1.symm) fun j hj => ?_
  rw [ha.1] at hj
  have hg := congrArg (getI · j) h
  rw [jn_get ha.1, jn_get hb.1, if_pos hj, if_pos hj] at hg
  exact x_inj (ha.2.all (by decide) j) (hb.2.all (by decide) j) (hc.2.all (by decide) j) hg
theorem tw_0 : tw 0 = 0 := rfl
/-- What a column's bytes are joined with, as numbers. -/
theorem col_zero {a b c d : Nat} (ha : a < 256) (hb : b < 256) (hc : c < 256) (hd : d < 256) (h0 : a = tw (a ^^^ b)) (h1 : b = tw (b ^^^ c)) (h2 : c = tw (c ^^^ d)) (h3 : d = tw (d ^^^ a)) (hs : ((a ^^^ b) ^^^ c) ^^^ d = 0) :
    a = 0 ∧ b = 0 ∧ c = 0 ∧ d = 0 := by
  have e1 : a ^^^ b = c ^^^ d := nx_zero (by rw [← hs, ← Nat.xor_assoc])
  have ac : a = c := by rw [h0, e1, ← h2]
  have e2 : b ^^^ c = d ^^^ a := nx_zero (by
    rw [← hs]
    apply Nat.eq_of_testBit_eq
    intro i
    simp only [Nat.testBit_xor]
    cases a.testBit i <;> cases b.testBit i <;> cases c.testBit i <;> cases d.testBit i <;> rfl)
  have bd : b = d := by rw [h1, e2, ← h3]
  have ab : a = b := by
    have : b = tw (a ^^^ b) := by rw [Nat.xor_comm, ac]; exact h1
    rw [this]; exact h0
  have a0 : a = 0 := by rw [h0, ← ab, Nat.xor_self, tw_0]
  exact ⟨a0, by rw [← ab]; exact a0, by rw [← ac]; exact a0, by rw [← bd, ← ab]; exact a0⟩
theorem col_alg (a b c d s t u v : Nat) : (((a ^^^ ((((a ^^^ b) ^^^ c) ^^^ d) ^^^ (s ^^^ t))) ^^^ (b ^^^ ((((a ^^^ b) ^^^ c) ^^^ d) ^^^ (t ^^^ u)))) ^^^ (c ^^^ ((((a ^^^ b) ^^^ c) ^^^ d) ^^^ (u ^^^ v)))) ^^^ (d ^^^ ((((a ^^^ b) ^^^ c) ^^^ d) ^^^ (v ^^^ s))) = ((a ^^^ b) ^^^ c) ^^^ d := by
  apply Nat.eq_of_testBit_eq
  intro i
  simp only [Nat.testBit_xor]
  cases a.testBit i <;> cases b.testBit i <;> cases c.testBit i <;> cases d.testBit i <;> cases s.testBit i <;> cases t.testBit i <;> cases u.testBit i <;> cases v.testBit i <;> rfl
/-- The program's byte, as numbers. -/
def mN (A a b : Nat) : Nat := a ^^^ (A ^^^ tw (a ^^^ b))
def aN (a b c d : Nat) : Nat := ((a ^^^ b) ^^^ c) ^^^ d
theorem col_sum {a b c d : Nat} (ha : a < 256) (hb : b < 256) (hc : c < 256) (hd : d < 256) : aN (mN (aN a b c d) a b) (mN (aN a b c d) b c) (mN (aN a b c d) c d) (mN (aN a b c d) d a) = aN a b c d := by
  unfold mN aN
  rw [tw_xor ha hb, tw_xor hb hc, tw_xor hc hd, tw_xor hd ha]
  exact col_alg a b c d _ _ _ _
theorem m_diff {A a b a' b' : Nat} (ha : a < 256) (hb : b < 256) (ha' : a' < 256) (hb' : b' < 256) (h : mN A a b = mN A a' b') : a ^^^ a' = tw ((a ^^^ a') ^^^ (b ^^^ b')) := by
  unfold mN at h
  rw [tw_xor ha hb, tw_xor ha' hb'] at h
  rw [tw_xor (x_lt ha ha') (x_lt hb hb'), tw_xor ha ha', tw_xor hb hb']
  generalize tw a = p at *
  generalize tw b = q at *
  generalize tw a' = r at *
  generalize tw b' = s at *
  apply Nat.eq_of_testBit_eq
  intro i
  have h := congrArg (Nat.testBit · i) h
  simp only [Nat.testBit_xor] at h ⊢
  revert h
  cases A.testBit i <;> cases a.testBit i <;> cases a'.testBit i <;> cases p.testBit i <;> cases q.testBit i <;> cases r.testBit i <;> cases s.testBit i <;> decide
theorem col_inj {a b c d a' b' c' d' : Nat} (ha : a < 256) (hb : b < 256) (hc : c < 256) (hd : d < 256) (ha' : a' < 256) (hb' : b' < 256) (hc' : c' < 256) (hd' : d' < 256)
    (h0 : mN (aN a b c d) a b = mN (aN a' b' c' d') a' b') (h1 : mN (aN a b c d) b c = mN (aN a' b' c' d') b' c') (h2 : mN (aN a b c d) c d = mN (aN a' b' c' d') c' d') (h3 : mN (aN a b c d) d a = mN (aN a' b' c' d') d' a') :
    a = a' ∧ b = b' ∧ c = c' ∧ d = d' := by
  have hA : aN a b c d = aN a' b' c' d' := by rw [← col_sum ha hb hc hd, h0, h1, h2, h3, col_sum ha' hb' hc' hd']
  rw [← hA] at h0 h1 h2 h3
  have := col_zero (x_lt ha ha') (x_lt hb hb') (x_lt hc hc') (x_lt hd hd') (m_diff ha hb ha' hb' h0) (m_diff hb hc hb' hc' h1) (m_diff hc hd hc' hd' h2) (m_diff hd ha hd' ha' h3) (by
    unfold aN at hA
    apply Nat.eq_of_testBit_eq
    intro i
    have h := congrArg (Nat.testBit · i) hA
    simp only [Nat.testBit_xor] at h ⊢
    rw [Nat.zero_testBit]
    revert h
    cases a.testBit i <;> cases b.testBit i <;> cases c.testBit i <;> cases d.testBit i <;> cases a'.testBit i <;> cases b'.testBit i <;> cases c'.testBit i <;> cases d'.testBit i <;> decide)
  exact ⟨nx_zero this.1, nx_zero this.2.1, nx_zero this.2.2.1, nx_zero this.2.2.2⟩
theorem m_int {a b c d x y : Nat} (ha : a < 256) (hb : b < 256) (hc : c < 256) (hd : d < 256) (hx : x < 256) (hy : y < 256) :
    bXor .u8 (x : Int) (bXor .u8 (bXor .u8 (bXor .u8 (bXor .u8 (a : Int) (b : Int)) (c : Int)) (d : Int)) (twi (bXor .u8 (x : Int) (y : Int)))) = ((mN (aN a b c d) x y : Nat) : Int) := by
  have t := twi_tw _ (x_lt hx hy)
  rw [xn ha hb, xn (x_lt ha hb) hc, xn (x_lt (x_lt ha hb) hc) hd, xn hx hy, t.1, xn (x_lt (x_lt (x_lt ha hb) hc) hd) t.2.2.2, xn hx (x_lt (x_lt (x_lt (x_lt ha hb) hc) hd) t.2.2.2)]
  rfl
theorem mix_inj {s t : List Int} (hs : B16 s) (ht : B16 t) (h : itr mx4 s 4 = itr mx4 t 4) : s = t := by
  have key : ∀ c, c < 4 → getI s (4 * c) = getI t (4 * c) ∧ getI s (4 * c + 1) = getI t (4 * c + 1) ∧ getI s (4 * c + 2) = getI t (4 * c + 2) ∧ getI s (4 * c + 3) = getI t (4 * c + 3) := by
    intro c hc
    have hm : ∀ k, k < 4 → mixP s (4 * c + k) = mixP t (4 * c + k) := fun k hk => by
      have hg := congrArg (getI · (4 * c + k)) h
      rwa [(mx4_get hs.1 4 (by decide)).2, (mx4_get ht.1 4 (by decide)).2, if_pos (by omega), if_pos (by omega)] at hg
    have h0 := hm 0 (by decide)
    have h1 := hm 1 (by decide)
    have h2 := hm 2 (by decide)
    have h3 := hm 3 (by decide)
    simp only [mixP, all4] at h0 h1 h2 h3
    rw [show (4 * c + 0) / 4 = c by omega, show (4 * c + 0) % 4 = 0 by omega, if_pos (by decide), if_pos (by decide), Nat.add_zero] at h0
    rw [show (4 * c + 1) / 4 = c by omega, show (4 * c + 1) % 4 = 1 by omega, if_pos (by decide), if_pos (by decide)] at h1
    rw [show (4 * c + 2) / 4 = c by omega, show (4 * c + 2) % 4 = 2 by omega, if_pos (by decide), if_pos (by decide)] at h2
    rw [show (4 * c + 3) / 4 = c by omega, show (4 * c + 3) % 4 = 3 by omega, if_neg (by decide), if_neg (by decide)] at h3
    rw [show 4 * c + 1 + 1 = 4 * c + 2 by omega] at h1
    rw [show 4 * c + 2 + 1 = 4 * c + 3 by omega] at h2
    obtain ⟨a, ea, ha⟩ := (show Bt _ from hs.2.all (by decide) (4 * c)).nat
    obtain ⟨b, eb, hb⟩ := (show Bt _ from hs.2.all (by decide) (4 * c + 1)).nat
    obtain ⟨e, ee, he⟩ := (show Bt _ from hs.2.all (by decide) (4 * c + 2)).nat
    obtain ⟨d, ed, hd⟩ := (show Bt _ from hs.2.all (by decide) (4 * c + 3)).nat
    obtain ⟨a', ea', ha'⟩ := (show Bt _ from ht.2.all (by decide) (4 * c)).nat
    obtain ⟨b', eb', hb'⟩ := (show Bt _ from ht.2.all (by decide) (4 * c + 1)).nat
    obtain ⟨e', ee', he'⟩ := (show Bt _ from ht.2.all (by decide) (4 * c + 2)).nat
    obtain ⟨d', ed', hd'⟩ := (show Bt _ from ht.2.all (by decide) (4 * c + 3)).nat
    rw [ea, eb, ee, ed, ea', eb', ee', ed'] at h0 h1 h2 h3 ⊢
    rw [m_int ha hb he hd ha hb, m_int ha' hb' he' hd' ha' hb'] at h0
    rw [m_int ha hb he hd hb he, m_int ha' hb' he' hd' hb' he'] at h1
    rw [m_int ha hb he hd he hd, m_int ha' hb' he' hd' he' hd'] at h2
    rw [m_int ha hb he hd hd ha, m_int ha' hb' he' hd' hd' ha'] at h3
    obtain ⟨r0, r1, r2, r3⟩ := col_inj ha hb he hd ha' hb' he' hd' (Int.ofNat.inj h0) (Int.ofNat.inj h1) (Int.ofNat.inj h2) (Int.ofNat.inj h3)
    exact ⟨by rw [r0], by rw [r1], by rw [r2], by rw [r3]⟩
  refine getI_ext (hs.1.trans ht.1.symm) fun j hj => ?_
  rw [hs.1] at hj
  obtain ⟨k0, k1, k2, k3⟩ := key (j / 4) (by omega)
  rcases (by omega : j = 4 * (j / 4) ∨ j = 4 * (j / 4) + 1 ∨ j = 4 * (j / 4) + 2 ∨ j = 4 * (j / 4) + 3) with e | e | e | e
  all_goals rw [e]; assumption
theorem SB_inj {x y : Nat} (hx : x < 256) (hy : y < 256) (h : getI SB x = getI SB y) : x = y := by
  have := SB_inv x hx
  rw [h, SB_inv y hy] at this
  exact this.symm
theorem shb_inj {L a b : List Int} (hS : ∀ x, x < 256 → getI L (176 + x) = getI SB x) (ha : B16 a) (hb : B16 b) (h : shb L a = shb L b) : a = b := by
  refine getI_ext (ha.1.trans hb.1.symm) fun j hj => ?_
  rw [ha.1] at hj
  have hp : ∃ i, i < 16 ∧ (i + i % 4 * 4) % 16 = j := by
    have : ∀ j, j < 16 → ((j + 12 * (j % 4)) % 16 + (j + 12 * (j % 4)) % 16 % 4 * 4) % 16 = j := by decide
    exact ⟨(j + 12 * (j % 4)) % 16, Nat.mod_lt _ (by decide), this j hj⟩
  obtain ⟨i, hi, rfl⟩ := hp
  have hg := congrArg (getI · i) h
  have b1 := ha.2.all (by decide) ((i + i % 4 * 4) % 16)
  have b2 := hb.2.all (by decide) ((i + i % 4 * 4) % 16)
  rw [shb_get i hi, shb_get i hi, hS _ (by omega), hS _ (by omega)] at hg
  have := SB_inj (by omega) (by omega) hg
  omega
theorem sub_16 {L : List Int} (hL : L432 L) {m : Nat} (hm : m < 11) : B16 (sub L (m * 16) 16) :=
  ⟨by simp [sub, hL.1]; omega, fun y hy => hL.2 y (List.mem_of_mem_drop (List.mem_of_mem_take hy))⟩
theorem rnd_inj {L a b : List Int} (hL : L432 L) (hS : ∀ x, x < 256 → getI L (176 + x) = getI SB x) {m : Nat} (hm : m < 10) (ha : B16 a) (hb : B16 b) (h : rnd L a m = rnd L b m) : a = b := by
  have sa : B16 (shb L a) := sbst_ok hL 16
  have sb : B16 (shb L b) := sbst_ok hL 16
  unfold rnd at h
  by_cases h9 : m < 9
  · rw [if_pos h9, if_pos h9] at h
    exact shb_inj hS ha hb (mix_inj sa sb (jn_inj (mx4_ok sa 4) (mx4_ok sb 4) (sub_16 hL (by omega)) h))
  · rw [if_neg h9, if_neg h9] at h
    exact shb_inj hS ha hb (jn_inj sa sb (sub_16 hL (by omega)) h)
theorem enc_inj {k a b : List Int} (hk : B16 k) (ha : B16 a) (hb : B16 b) (h : encF (newF k) a = encF (newF k) b) : a = b := by
  have hL := new_ok hk
  have hS : ∀ x, x < 256 → getI (newF k) (176 + x) = getI SB x := fun x hx => by rw [(same_key hk).box x hx, box_SB]
  obtain ⟨L, hLe⟩ : ∃ L, newF k = L := ⟨_, rfl⟩
  rw [hLe] at hL hS h
  unfold encF at h
  have key : ∀ n, n ≤ 10 → itr (rnd L) (jn a (sub L 0 16) 16) n = itr (rnd L) (jn b (sub L 0 16) 16) n → jn a (sub L 0 16) 16 = jn b (sub L 0 16) 16 := by
    intro n
    induction n with
    | zero => intro _ h; rwa [itr, itr] at h
    | succ n ih =>
      intro hn h
      rw [itr_s, itr_s] at h
      exact ih (by omega) (rnd_inj hL hS (by omega) (rnds_ok hL ha n) (rnds_ok hL hb n) h)
  have h0 : B16 (sub L 0 16) := sub_16 hL (m := 0) (by omega)
  exact jn_inj ha hb h0 (key 10 (by decide) h)
def preAp (ds : List D) : Prop := ∃ (k b c : List Int) (n : Int) (t : Bool), ds = [.v (.ints .u8 k), .v (.ints .u8 b), .v (.ints .u8 c), .v (.int .u8 n), .v (.bool t)] ∧ B16 k ∧ B16 b ∧ B16 c ∧ 0 ≤ n ∧ n < 256
set_option maxHeartbeats 8000000 in
theorem lawAesApart : ∀ ds, preAp ds → Does Try.prog gl 5 (injV ds 4) (gl ++ injB true ds) (out (4 + (injB true ds).length) (FTrue08 ds)) := by
  refine fdoesA (l := [(13, s13), (14, s14)]) mixed gl_plain rfl Try.func5 comp5 compR5 nt5 (by simp only [List.mem_cons, List.not_mem_nil, or_false, forall_eq_or_imp, forall_eq]; exact ⟨ok13, ok14⟩) fun ds ⟨k, b, c, x, t, hd, hk, hb, hc, hx⟩ hA => ?_
  obtain ⟨n, rfl⟩ := Int.eq_ofNat_of_zero_le hx.1
  have hn : n < 256 := by omega
  subst hd
  have hkl := hk.1
  have hbl := hb.1
  have hcl := hc.1
  have sk : sub k 0 16 = k := qdk hkl
  have sb : sub b 0 16 = b := qdk hbl
  have sc : sub c 0 16 = c := qdk hcl
  have qA : preE [] := rfl
  have n8 : ¬ (8 : Int) = 0 := by decide
  have n16 : ¬ (16 : Int) = 0 := by decide
  have wd : Go.IntKind.u8.wrap ((n : Int).tdiv 8) = ((n / 8 : Nat) : Int) := by
    rw [Int.tdiv_eq_ediv_of_nonneg (by omega), wrap_u8]; omega
  have t8 : (n : Int).tmod 8 = ((n % 8 : Nat) : Int) := tmod_nat (k := 8)
  have h16 : n / 8 % 16 < 16 := Nat.mod_lt _ (by decide)
  have q : ∀ d : List Int, B16 d → preEncB [.v (.ints .u8 k), .v (.ints .u8 d)] := fun d hd => ⟨_, _, rfl, hk, hd⟩
  have f : ∀ d : List Int, F14 [.v (.ints .u8 k), .v (.ints .u8 d)] = .one (.v (.ints .u8 (encF (newF k) d))) := fun d => rfl
  have eqv : ∀ d : List Int, B16 d → (encF (newF k) b = encF (newF k) d ↔ b = d) := fun d hd => ⟨enc_inj hk hb hd, fun h => by rw [h]⟩
  have lenE : ∀ d : List Int, B16 d → (encF (newF k) d).length = 16 := fun d hd => (enc_ok hk hd).1
  have qb := q b hb
  have fb := f b
  have lb := lenE b hb
  cases t
  · have qc := q c hc
    have fc := f c
    have lc := lenE c hc
    have ev := eqv c hc
    obtain ⟨R, hRe⟩ : ∃ R, encF (newF k) b = R := ⟨_, rfl⟩
    obtain ⟨T, hTe⟩ : ∃ T, encF (newF k) c = T := ⟨_, rfl⟩
    rw [hRe] at fb lb
    rw [hTe] at fc lc
    rw [hRe, hTe] at ev
    simp only [s13, s14]
    by_cases hbc : b = c
    all_goals
      have hRT := hbc
      rw [← ev] at hRT
      simp only [ir5,rs5,gl,FTrue08,F13,qA,hkl,hbl,hcl,sk,sb,sc,qb,qc,fb,fc,lb,lc,hbc,hRT,eq_self,s13,s14,qdk,qdg,qaj,List.length_cons,List.length_nil,Nat.reduceAdd,Nat.le_refl,Nat.reduceLeDiff,Nat.reduceLT,true_and,and_true,↓qax,↓qay,↓qa0,↓qaz,↓qcy,↓qbj,↓qa1,↓qcr,↓qb3,↓qco,↓qcb,↓qck,↓qcl,↓qb4,↓qcj,↓qcp,↓qb5,↓qcm,↓qcn,↓qb6,↓qcc,↓qca,↓qb9,↓qb8,↓qb7,↓qa5,↓qbc,↓qa6,↓qbd,↓qa7,↓qbe,↓qa8,↓qbf,↓qa9,↓qbg,↓qba,↓qbh,↓qbb,↓qbi,↓qb2,↓qcq,↓qfp,↓qcu,↓qcv,↓qcw,↓qct,↓qcs,↓qbm,↓qbn,↓qb0,↓qbv,↓qbq,↓qbu,↓qbz,↓qbw,↓qby,↓qbx,↓qbr,↓qbp,↓qb1,↓qbs,↓qbt,↓qbo,↓qfc,↓qfb,↓qfg,↓qfi,↓qfh,↓qfa,↓qe9,↓qe6,↓qe7,↓qff,↓qfe,↓qfd,qdf,↓qe3,↓qe4,↓qe8,↓qdc,↓qda,↓qdb,↓qfk,↓qfl,↓qfm,↓qfj,qaa,↓qe5,↓qer,↓qes,↓qfo,↓qfn,↓qev,↓qdu,↓qd2,↓qej,↓qek,↓qe0,↓qe1,↓qdy,↓qdz,↓qd1,↓qd0,↓qd7,↓qe2,↓qd5,↓qew,↓qdx,↓qep,↓qex,↓qey,↓qez,↓qeb,↓qea,↓qec,↓qed,↓qef,↓qd9,↓qeg,↓qei,↓qeh,↓qdv,↓qdw,↓qd8,↓qaw,↓qd6,↓qeq,↓qem,↓qdt,↓qet,↓qel,↓qee,qav,List.drop_zero,Nat.sub_zero,qc6,qcz,qc0,qdr,qat,qas,qaf,List.map_cons,List.map_nil,List.zip_cons_cons,List.zip_nil_right,List.zip_nil_left,qau,evs,evp,mkB,repB,blen,qae,qad,qac,qab,qc9,qc8,qdq,qds,qdo,qdp,qc5,qc7,qc3,qc4,↓qdm,↓qdl,↓qdn,↓qah,↓qag,↓qai,↓retQ,res,resAll,resOne,kill,apartOk,exp,injV,injB,pur,purs,purR,pursR,List.set_cons_zero,List.set_cons_succ,List.length_cons,List.length_nil,List.cons_append,List.nil_append,List.append_nil,List.append_assoc,List.length_append,List.reduceReplicate,Nat.reduceAdd,Nat.reduceMul,Nat.reduceSub,Nat.reduceEqDiff,Nat.reduceLT,Nat.zero_add,Nat.add_zero,Nat.mul_one,Int.reduceToNat,Int.toNat_natCast,Int.cast_ofNat_Int,Int.reduceLE,Int.reduceLT,Int.reduceEq,reduceCtorEq,↓reduceIte,Bool.true_eq_false,Bool.false_eq_true,Bool.not_true,Bool.not_false,true_and,and_true,and_assoc,qaj,sub1,qdi,qdh,qdj,List.length_replicate,Nat.le_refl,false_implies,true_implies,ne_eq,not_true_eq_false,not_false_eq_true,decide_true,decide_false,decide_eq_true_eq,decide_eq_false_iff_not,Bool.not_eq_true',Bool.not_eq_false']
      exact out_bool rfl
  · obtain ⟨v, hve⟩ : ∃ v, bXor .u8 (getI b (n / 8 % 16)) (iShl .u8 1 ((n % 8 : Nat) : Int)) = v := ⟨_, rfl⟩
    have hv : Bt v := by rw [← hve]; exact x8_bd _ _
    have hZ : B16 (b.set (n / 8 % 16) v) := ⟨by rw [List.length_set]; exact hbl, hb.2.set _ hv.1 hv.2⟩
    obtain ⟨Z, hZe⟩ : ∃ Z, b.set (n / 8 % 16) v = Z := ⟨_, rfl⟩
    rw [hZe] at hZ
    have hZl := hZ.1
    have sZ : sub Z 0 16 = Z := qdk hZl
    have pb : spl c 0 b = b := qdg (by omega)
    have qc := q Z hZ
    have fc := f Z
    have lc := lenE Z hZ
    have ev := eqv Z hZ
    obtain ⟨R, hRe⟩ : ∃ R, encF (newF k) b = R := ⟨_, rfl⟩
    obtain ⟨T, hTe⟩ : ∃ T, encF (newF k) Z = T := ⟨_, rfl⟩
    rw [hRe] at fb lb
    rw [hTe] at fc lc
    rw [hRe, hTe] at ev
    simp only [s13, s14]
    by_cases hbc : b = Z
    · have hRT := ev.2 hbc
      rw [hRT] at fb lb
      simp only [ir5,rs5,gl,FTrue08,F13,qA,n8,n16,wd,t8,tmod16,h16,hve,hZe,hkl,hbl,hcl,hZl,sk,sb,sc,sZ,pb,qb,qc,fb,fc,lb,lc,eq_self,hbc.symm,s13,s14,qdk,qdg,qaj,List.length_cons,List.length_nil,Nat.reduceAdd,Nat.le_refl,Nat.reduceLeDiff,Nat.reduceLT,true_and,and_true,↓qax,↓qay,↓qa0,↓qaz,↓qcy,↓qbj,↓qa1,↓qcr,↓qb3,↓qco,↓qcb,↓qck,↓qcl,↓qb4,↓qcj,↓qcp,↓qb5,↓qcm,↓qcn,↓qb6,↓qcc,↓qca,↓qb9,↓qb8,↓qb7,↓qa5,↓qbc,↓qa6,↓qbd,↓qa7,↓qbe,↓qa8,↓qbf,↓qa9,↓qbg,↓qba,↓qbh,↓qbb,↓qbi,↓qb2,↓qcq,↓qfp,↓qcu,↓qcv,↓qcw,↓qct,↓qcs,↓qbm,↓qbn,↓qb0,↓qbv,↓qbq,↓qbu,↓qbz,↓qbw,↓qby,↓qbx,↓qbr,↓qbp,↓qb1,↓qbs,↓qbt,↓qbo,↓qfc,↓qfb,↓qfg,↓qfi,↓qfh,↓qfa,↓qe9,↓qe6,↓qe7,↓qff,↓qfe,↓qfd,qdf,↓qe3,↓qe4,↓qe8,↓qdc,↓qda,↓qdb,↓qfk,↓qfl,↓qfm,↓qfj,qaa,↓qe5,↓qer,↓qes,↓qfo,↓qfn,↓qev,↓qdu,↓qd2,↓qej,↓qek,↓qe0,↓qe1,↓qdy,↓qdz,↓qd1,↓qd0,↓qd7,↓qe2,↓qd5,↓qew,↓qdx,↓qep,↓qex,↓qey,↓qez,↓qeb,↓qea,↓qec,↓qed,↓qef,↓qd9,↓qeg,↓qei,↓qeh,↓qdv,↓qdw,↓qd8,↓qaw,↓qd6,↓qeq,↓qem,↓qdt,↓qet,↓qel,↓qee,qav,List.drop_zero,Nat.sub_zero,qc6,qcz,qc0,qdr,qat,qas,qaf,List.map_cons,List.map_nil,List.zip_cons_cons,List.zip_nil_right,List.zip_nil_left,qau,evs,evp,mkB,repB,blen,qae,qad,qac,qab,qc9,qc8,qdq,qds,qdo,qdp,qc5,qc7,qc3,qc4,↓qdm,↓qdl,↓qdn,↓qah,↓qag,↓qai,↓retQ,res,resAll,resOne,kill,apartOk,exp,injV,injB,pur,purs,purR,pursR,List.set_cons_zero,List.set_cons_succ,List.length_cons,List.length_nil,List.cons_append,List.nil_append,List.append_nil,List.append_assoc,List.length_append,List.reduceReplicate,Nat.reduceAdd,Nat.reduceMul,Nat.reduceSub,Nat.reduceEqDiff,Nat.reduceLT,Nat.zero_add,Nat.add_zero,Nat.mul_one,Int.reduceToNat,Int.toNat_natCast,Int.cast_ofNat_Int,Int.reduceLE,Int.reduceLT,Int.reduceEq,reduceCtorEq,↓reduceIte,Bool.true_eq_false,Bool.false_eq_true,Bool.not_true,Bool.not_false,true_and,and_true,and_assoc,qaj,sub1,qdi,qdh,qdj,List.length_replicate,Nat.le_refl,false_implies,true_implies,ne_eq,not_true_eq_false,not_false_eq_true,decide_true,decide_false,decide_eq_true_eq,decide_eq_false_iff_not,Bool.not_eq_true',Bool.not_eq_false']
      repeat (refine And.intro (by omega) ?_)
      exact out_bool rfl
    · have hRT : ¬ R = T := fun h => hbc (ev.1 h)
      simp only [ir5,rs5,gl,FTrue08,F13,qA,n8,n16,wd,t8,tmod16,h16,hve,hZe,hkl,hbl,hcl,hZl,sk,sb,sc,sZ,pb,qb,qc,fb,fc,lb,lc,hbc,hRT,eq_self,s13,s14,qdk,qdg,qaj,List.length_cons,List.length_nil,Nat.reduceAdd,Nat.le_refl,Nat.reduceLeDiff,Nat.reduceLT,true_and,and_true,↓qax,↓qay,↓qa0,↓qaz,↓qcy,↓qbj,↓qa1,↓qcr,↓qb3,↓qco,↓qcb,↓qck,↓qcl,↓qb4,↓qcj,↓qcp,↓qb5,↓qcm,↓qcn,↓qb6,↓qcc,↓qca,↓qb9,↓qb8,↓qb7,↓qa5,↓qbc,↓qa6,↓qbd,↓qa7,↓qbe,↓qa8,↓qbf,↓qa9,↓qbg,↓qba,↓qbh,↓qbb,↓qbi,↓qb2,↓qcq,↓qfp,↓qcu,↓qcv,↓qcw,↓qct,↓qcs,↓qbm,↓qbn,↓qb0,↓qbv,↓qbq,↓qbu,↓qbz,↓qbw,↓qby,↓qbx,↓qbr,↓qbp,↓qb1,↓qbs,↓qbt,↓qbo,↓qfc,↓qfb,↓qfg,↓qfi,↓qfh,↓qfa,↓qe9,↓qe6,↓qe7,↓qff,↓qfe,↓qfd,qdf,↓qe3,↓qe4,↓qe8,↓qdc,↓qda,↓qdb,↓qfk,↓qfl,↓qfm,↓qfj,qaa,↓qe5,↓qer,↓qes,↓qfo,↓qfn,↓qev,↓qdu,↓qd2,↓qej,↓qek,↓qe0,↓qe1,↓qdy,↓qdz,↓qd1,↓qd0,↓qd7,↓qe2,↓qd5,↓qew,↓qdx,↓qep,↓qex,↓qey,↓qez,↓qeb,↓qea,↓qec,↓qed,↓qef,↓qd9,↓qeg,↓qei,↓qeh,↓qdv,↓qdw,↓qd8,↓qaw,↓qd6,↓qeq,↓qem,↓qdt,↓qet,↓qel,↓qee,qav,List.drop_zero,Nat.sub_zero,qc6,qcz,qc0,qdr,qat,qas,qaf,List.map_cons,List.map_nil,List.zip_cons_cons,List.zip_nil_right,List.zip_nil_left,qau,evs,evp,mkB,repB,blen,qae,qad,qac,qab,qc9,qc8,qdq,qds,qdo,qdp,qc5,qc7,qc3,qc4,↓qdm,↓qdl,↓qdn,↓qah,↓qag,↓qai,↓retQ,res,resAll,resOne,kill,apartOk,exp,injV,injB,pur,purs,purR,pursR,List.set_cons_zero,List.set_cons_succ,List.length_cons,List.length_nil,List.cons_append,List.nil_append,List.append_nil,List.append_assoc,List.length_append,List.reduceReplicate,Nat.reduceAdd,Nat.reduceMul,Nat.reduceSub,Nat.reduceEqDiff,Nat.reduceLT,Nat.zero_add,Nat.add_zero,Nat.mul_one,Int.reduceToNat,Int.toNat_natCast,Int.cast_ofNat_Int,Int.reduceLE,Int.reduceLT,Int.reduceEq,reduceCtorEq,↓reduceIte,Bool.true_eq_false,Bool.false_eq_true,Bool.not_true,Bool.not_false,true_and,and_true,and_assoc,qaj,sub1,qdi,qdh,qdj,List.length_replicate,Nat.le_refl,false_implies,true_implies,ne_eq,not_true_eq_false,not_false_eq_true,decide_true,decide_false,decide_eq_true_eq,decide_eq_false_iff_not,Bool.not_eq_true',Bool.not_eq_false']
      repeat (refine And.intro (by omega) ?_)
      exact out_bool rfl
end Am
