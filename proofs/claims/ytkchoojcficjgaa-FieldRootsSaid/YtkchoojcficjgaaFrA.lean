/-
Working texts: contracts of functions, and the numbers behind them.
-/
import Derived.Test.YtkchoojcficjgaaFlZ
import Derived.Test.YtkchoojcficjgaaIrB
set_option linter.unusedSimpArgs false
set_option linter.unusedVariables false
set_option linter.unusedSectionVars false
set_option linter.unusedSimpArgs false
set_option linter.unusedVariables false
set_option maxRecDepth 20000
namespace Am
open Go.Proofs
/-! ### Squares and roots: the walks -/
def F82 : List D → Out
  | [.s _ a, .s _ b] => .one (.v (.bool (decide (val 65536 a = val 65536 b))))
  | _ => bad
def s82 : Summ := sData [.s .u32, .s .u32] preLL F82
theorem ok82 {g : List Blk} [Ge gl g] : SumOK Try.prog g 82 s82 ∧ SumAbs s82 := by
  refine fsumA (l := [(84, s84)]) mixed gl_plain rfl Try.func82 comp82 compR82 nt82 (by simp only [List.mem_cons, List.not_mem_nil, or_false, forall_eq]; exact ok84) fun ds ⟨a, b, hd, ha, hb, hal, hbl⟩ hA => ?_
  subst hd
  have p1 : pre84 [.s .u32 a, .s .u32 b] := ⟨_, _, rfl, ha, hb, by omega, by omega⟩
  have p2 : pre84 [.s .u32 b, .s .u32 a] := ⟨_, _, rfl, hb, ha, by omega, by omega⟩
  have sa := qc8 a
  have sb := qc8 b
  simp only [s84]
  obtain ⟨x, hx⟩ : ∃ x, val 65536 a = x := ⟨_, rfl⟩
  obtain ⟨y, hy⟩ : ∃ y, val 65536 b = y := ⟨_, rfl⟩
  rcases (by omega : x < y ∨ (¬ x < y ∧ y < x) ∨ (¬ x < y ∧ ¬ y < x)) with h | ⟨h, h2⟩ | ⟨h, h2⟩
  · have e : decide (x = y) = false := decide_eq_false (by omega)
    simp only [ir82,rs82,gl,F82,p1,p2,sa,sb,hx,hy,h,e,s84,F84,qda,qc6,qaj,List.length_cons,List.length_nil,Nat.reduceAdd,Nat.le_refl,Nat.reduceLeDiff,Nat.reduceLT,true_and,and_true,↓qax,↓qay,↓qa0,↓qaz,↓qcs,↓qbj,↓qa1,↓qcl,↓qb3,↓qci,↓qcb,↓qce,↓qcf,↓qb4,↓qcd,↓qcj,↓qb5,↓qcg,↓qch,↓qb6,↓qcc,↓qca,↓qb9,↓qb8,↓qb7,↓qa5,↓qbc,↓qa6,↓qbd,↓qa7,↓qbe,↓qa8,↓qbf,↓qa9,↓qbg,↓qba,↓qbh,↓qbb,↓qbi,↓qb2,↓qck,↓qfc,↓qco,↓qcp,↓qcq,↓qcn,↓qcm,↓qbm,↓qbn,↓qb0,↓qbv,↓qbq,↓qbu,↓qbz,↓qbw,↓qby,↓qbx,↓qbr,↓qbp,↓qb1,↓qbs,↓qbt,↓qbo,↓qez,↓qey,↓qe3,↓qe5,↓qe4,↓qex,↓qew,↓qet,↓qeu,↓qe2,↓qe1,↓qe0,qc5,↓qeq,↓qer,↓qev,↓qc4,↓qc2,↓qc3,↓qe7,↓qe8,↓qe9,↓qe6,qaa,↓qes,↓qef,↓qeg,↓qfb,↓qfa,↓qei,↓qdk,↓qds,↓qd9,↓qea,↓qen,↓qeo,↓qdo,↓qdp,↓qdr,↓qdq,↓qdx,↓qep,↓qdv,↓qej,↓qdn,↓qed,↓qek,↓qel,↓qem,↓qd1,↓qd0,↓qd2,↓qd3,↓qd5,↓qdz,↓qd6,↓qd8,↓qd7,↓qdl,↓qdm,↓qdy,↓qaw,↓qdw,↓qee,↓qec,↓qdj,↓qeh,↓qeb,↓qd4,qav,List.drop_zero,Nat.sub_zero,qcy,qct,qcu,qdh,qat,qas,qaf,List.map_cons,List.map_nil,List.zip_cons_cons,List.zip_nil_right,List.zip_nil_left,qau,evs,evp,mkB,repB,blen,qae,qad,qac,qab,qc1,qc0,qdg,qdi,qde,qdf,qcx,qcz,qcv,qcw,↓qdc,↓qdb,↓qdd,↓qah,↓qag,↓qai,↓retQ,res,resAll,resOne,kill,apartOk,exp,injV,injB,pur,purs,purR,pursR,List.set_cons_zero,List.set_cons_succ,List.length_cons,List.length_nil,List.cons_append,List.nil_append,List.append_nil,List.append_assoc,List.length_append,List.reduceReplicate,Nat.reduceAdd,Nat.reduceMul,Nat.reduceSub,Nat.reduceEqDiff,Nat.reduceLT,Nat.zero_add,Nat.add_zero,Nat.mul_one,Int.reduceToNat,Int.toNat_natCast,Int.cast_ofNat_Int,Int.reduceLE,Int.reduceLT,Int.reduceEq,reduceCtorEq,↓reduceIte,Bool.true_eq_false,Bool.false_eq_true,Bool.not_true,Bool.not_false,true_and,and_true,and_assoc,qaj,sub1,qc8,qc7,qc9,List.length_replicate,Nat.le_refl,false_implies,true_implies,ne_eq,not_true_eq_false,not_false_eq_true,decide_true,decide_false,decide_eq_true_eq,decide_eq_false_iff_not,Bool.not_eq_true',Bool.not_eq_false']
    simp only [out, outs, out1, pur, and_self]
  · have e : decide (x = y) = false := decide_eq_false (by omega)
    simp only [ir82,rs82,gl,F82,p1,p2,sa,sb,hx,hy,h,h2,e,s84,F84,qda,qc6,qaj,List.length_cons,List.length_nil,Nat.reduceAdd,Nat.le_refl,Nat.reduceLeDiff,Nat.reduceLT,true_and,and_true,↓qax,↓qay,↓qa0,↓qaz,↓qcs,↓qbj,↓qa1,↓qcl,↓qb3,↓qci,↓qcb,↓qce,↓qcf,↓qb4,↓qcd,↓qcj,↓qb5,↓qcg,↓qch,↓qb6,↓qcc,↓qca,↓qb9,↓qb8,↓qb7,↓qa5,↓qbc,↓qa6,↓qbd,↓qa7,↓qbe,↓qa8,↓qbf,↓qa9,↓qbg,↓qba,↓qbh,↓qbb,↓qbi,↓qb2,↓qck,↓qfc,↓qco,↓qcp,↓qcq,↓qcn,↓qcm,↓qbm,↓qbn,↓qb0,↓qbv,↓qbq,↓qbu,↓qbz,↓qbw,↓qby,↓qbx,↓qbr,↓qbp,↓qb1,↓qbs,↓qbt,↓qbo,↓qez,↓qey,↓qe3,↓qe5,↓qe4,↓qex,↓qew,↓qet,↓qeu,↓qe2,↓qe1,↓qe0,qc5,↓qeq,↓qer,↓qev,↓qc4,↓qc2,↓qc3,↓qe7,↓qe8,↓qe9,↓qe6,qaa,↓qes,↓qef,↓qeg,↓qfb,↓qfa,↓qei,↓qdk,↓qds,↓qd9,↓qea,↓qen,↓qeo,↓qdo,↓qdp,↓qdr,↓qdq,↓qdx,↓qep,↓qdv,↓qej,↓qdn,↓qed,↓qek,↓qel,↓qem,↓qd1,↓qd0,↓qd2,↓qd3,↓qd5,↓qdz,↓qd6,↓qd8,↓qd7,↓qdl,↓qdm,↓qdy,↓qaw,↓qdw,↓qee,↓qec,↓qdj,↓qeh,↓qeb,↓qd4,qav,List.drop_zero,Nat.sub_zero,qcy,qct,qcu,qdh,qat,qas,qaf,List.map_cons,List.map_nil,List.zip_cons_cons,List.zip_nil_right,List.zip_nil_left,qau,evs,evp,mkB,repB,blen,qae,qad,qac,qab,qc1,qc0,qdg,qdi,qde,qdf,qcx,qcz,qcv,qcw,↓qdc,↓qdb,↓qdd,↓qah,↓qag,↓qai,↓retQ,res,resAll,resOne,kill,apartOk,exp,injV,injB,pur,purs,purR,pursR,List.set_cons_zero,List.set_cons_succ,List.length_cons,List.length_nil,List.cons_append,List.nil_append,List.append_nil,List.append_assoc,List.length_append,List.reduceReplicate,Nat.reduceAdd,Nat.reduceMul,Nat.reduceSub,Nat.reduceEqDiff,Nat.reduceLT,Nat.zero_add,Nat.add_zero,Nat.mul_one,Int.reduceToNat,Int.toNat_natCast,Int.cast_ofNat_Int,Int.reduceLE,Int.reduceLT,Int.reduceEq,reduceCtorEq,↓reduceIte,Bool.true_eq_false,Bool.false_eq_true,Bool.not_true,Bool.not_false,true_and,and_true,and_assoc,qaj,sub1,qc8,qc7,qc9,List.length_replicate,Nat.le_refl,false_implies,true_implies,ne_eq,not_true_eq_false,not_false_eq_true,decide_true,decide_false,decide_eq_true_eq,decide_eq_false_iff_not,Bool.not_eq_true',Bool.not_eq_false']
    simp only [out, outs, out1, pur, and_self]
  · have e : decide (x = y) = true := decide_eq_true (by omega)
    simp only [ir82,rs82,gl,F82,p1,p2,sa,sb,hx,hy,h,h2,e,s84,F84,qda,qc6,qaj,List.length_cons,List.length_nil,Nat.reduceAdd,Nat.le_refl,Nat.reduceLeDiff,Nat.reduceLT,true_and,and_true,↓qax,↓qay,↓qa0,↓qaz,↓qcs,↓qbj,↓qa1,↓qcl,↓qb3,↓qci,↓qcb,↓qce,↓qcf,↓qb4,↓qcd,↓qcj,↓qb5,↓qcg,↓qch,↓qb6,↓qcc,↓qca,↓qb9,↓qb8,↓qb7,↓qa5,↓qbc,↓qa6,↓qbd,↓qa7,↓qbe,↓qa8,↓qbf,↓qa9,↓qbg,↓qba,↓qbh,↓qbb,↓qbi,↓qb2,↓qck,↓qfc,↓qco,↓qcp,↓qcq,↓qcn,↓qcm,↓qbm,↓qbn,↓qb0,↓qbv,↓qbq,↓qbu,↓qbz,↓qbw,↓qby,↓qbx,↓qbr,↓qbp,↓qb1,↓qbs,↓qbt,↓qbo,↓qez,↓qey,↓qe3,↓qe5,↓qe4,↓qex,↓qew,↓qet,↓qeu,↓qe2,↓qe1,↓qe0,qc5,↓qeq,↓qer,↓qev,↓qc4,↓qc2,↓qc3,↓qe7,↓qe8,↓qe9,↓qe6,qaa,↓qes,↓qef,↓qeg,↓qfb,↓qfa,↓qei,↓qdk,↓qds,↓qd9,↓qea,↓qen,↓qeo,↓qdo,↓qdp,↓qdr,↓qdq,↓qdx,↓qep,↓qdv,↓qej,↓qdn,↓qed,↓qek,↓qel,↓qem,↓qd1,↓qd0,↓qd2,↓qd3,↓qd5,↓qdz,↓qd6,↓qd8,↓qd7,↓qdl,↓qdm,↓qdy,↓qaw,↓qdw,↓qee,↓qec,↓qdj,↓qeh,↓qeb,↓qd4,qav,List.drop_zero,Nat.sub_zero,qcy,qct,qcu,qdh,qat,qas,qaf,List.map_cons,List.map_nil,List.zip_cons_cons,List.zip_nil_right,List.zip_nil_left,qau,evs,evp,mkB,repB,blen,qae,qad,qac,qab,qc1,qc0,qdg,qdi,qde,qdf,qcx,qcz,qcv,qcw,↓qdc,↓qdb,↓qdd,↓qah,↓qag,↓qai,↓retQ,res,resAll,resOne,kill,apartOk,exp,injV,injB,pur,purs,purR,pursR,List.set_cons_zero,List.set_cons_succ,List.length_cons,List.length_nil,List.cons_append,List.nil_append,List.append_nil,List.append_assoc,List.length_append,List.reduceReplicate,Nat.reduceAdd,Nat.reduceMul,Nat.reduceSub,Nat.reduceEqDiff,Nat.reduceLT,Nat.zero_add,Nat.add_zero,Nat.mul_one,Int.reduceToNat,Int.toNat_natCast,Int.cast_ofNat_Int,Int.reduceLE,Int.reduceLT,Int.reduceEq,reduceCtorEq,↓reduceIte,Bool.true_eq_false,Bool.false_eq_true,Bool.not_true,Bool.not_false,true_and,and_true,and_assoc,qaj,sub1,qc8,qc7,qc9,List.length_replicate,Nat.le_refl,false_implies,true_implies,ne_eq,not_true_eq_false,not_false_eq_true,decide_true,decide_false,decide_eq_true_eq,decide_eq_false_iff_not,Bool.not_eq_true',Bool.not_eq_false']
    simp only [out, outs, out1, pur, and_self]
def Hh : Int := 28948022309329048855892746252171976963317496166410141009864396001978282409974
def hst (l : List Int) (i : Nat) : List Int := l.set i (bOr .u32 (iShr .u32 (getI Pm i) 1) (bAnd .u32 (iShl .u32 (getI Pm (i + 1)) 15) 65535))
def hfs (n : Nat) : List Int := itr hst (List.replicate 16 0) n
theorem hfs_16 : hfs 16 = dig 65536 16 Hh := by decide +kernel
def sqL (a : List Int) : Bool := decide (val 65536 (rpow a 256 Hh) = 1) || decide (val 65536 (rpow a 256 Hh) = 0)
def F47 : List D → Out
  | [.s _ a] => .one (.v (.bool (sqL a)))
  | _ => bad
def s47 : Summ := sData [.s .u32] preSh F47
theorem ok47 {g : List Blk} [Ge gl g] : SumOK Try.prog g 47 s47 ∧ SumAbs s47 := by
  refine fsumA (l := [(55, s55), (37, s37), (54, s54), (77, s77), (28, s28), (82, s82)]) mixed gl_plain rfl Try.func47 comp47 compR47 nt47 (by simp only [List.mem_cons, List.not_mem_nil, or_false, forall_eq_or_imp, forall_eq]; exact ⟨ok55, ok37, ok54, ok77, ok28, ok82⟩) fun ds ⟨a, hd, ha⟩ hA => ?_
  subst hd
  have pP : pre55 [] := rfl
  have n1 : pre37 [.v (.int .u32 1)] := ⟨1, rfl, by decide, by decide⟩
  have n0 : pre37 [.v (.int .u32 0)] := ⟨0, rfl, by decide, by decide⟩
  have sP : sub Ps 0 16 = Ps := qda Ps_len
  have pm : pre54 [.s .u32 Ps, .s .u32 (dig 65536 2 1)] := ⟨_, _, rfl, Ps_dig, dig_dig (by decide) _ _, by rw [Ps_len]; decide, by rw [qaj]; decide⟩
  have sPm : sub Pm 0 16 = Pm := qda Pm_len
  have sa := qc8 a
  simp only [s55, s37, s54, s77, s28, s82]
  simp only [ir47,rs47,gl,F47,pP,n1,sP,pm,Ps_len,Pm_eq,sPm,Pm_len,sa,s55,s37,s54,F55,F37,F54,qda,qc6,qaj,List.length_cons,List.length_nil,Nat.reduceAdd,Nat.le_refl,Nat.reduceLeDiff,Nat.reduceLT,true_and,and_true,↓qax,↓qay,↓qa0,↓qaz,↓qcs,↓qbj,↓qa1,↓qcl,↓qb3,↓qci,↓qcb,↓qce,↓qcf,↓qb4,↓qcd,↓qcj,↓qb5,↓qcg,↓qch,↓qb6,↓qcc,↓qca,↓qb9,↓qb8,↓qb7,↓qa5,↓qbc,↓qa6,↓qbd,↓qa7,↓qbe,↓qa8,↓qbf,↓qa9,↓qbg,↓qba,↓qbh,↓qbb,↓qbi,↓qb2,↓qck,↓qfc,↓qco,↓qcp,↓qcq,↓qcn,↓qcm,↓qbm,↓qbn,↓qb0,↓qbv,↓qbq,↓qbu,↓qbz,↓qbw,↓qby,↓qbx,↓qbr,↓qbp,↓qb1,↓qbs,↓qbt,↓qbo,↓qez,↓qey,↓qe3,↓qe5,↓qe4,↓qex,↓qew,↓qet,↓qeu,↓qe2,↓qe1,↓qe0,qc5,↓qeq,↓qer,↓qev,↓qc4,↓qc2,↓qc3,↓qe7,↓qe8,↓qe9,↓qe6,qaa,↓qes,↓qef,↓qeg,↓qfb,↓qfa,↓qei,↓qdk,↓qds,↓qd9,↓qea,↓qen,↓qeo,↓qdo,↓qdp,↓qdr,↓qdq,↓qdx,↓qep,↓qdv,↓qej,↓qdn,↓qed,↓qek,↓qel,↓qem,↓qd1,↓qd0,↓qd2,↓qd3,↓qd5,↓qdz,↓qd6,↓qd8,↓qd7,↓qdl,↓qdm,↓qdy,↓qaw,↓qdw,↓qee,↓qec,↓qdj,↓qeh,↓qeb,↓qd4,qav,List.drop_zero,Nat.sub_zero,qcy,qct,qcu,qdh,qat,qas,qaf,List.map_cons,List.map_nil,List.zip_cons_cons,List.zip_nil_right,List.zip_nil_left,qau,evs,evp,mkB,repB,blen,qae,qad,qac,qab,qc1,qc0,qdg,qdi,qde,qdf,qcx,qcz,qcv,qcw,↓qdc,↓qdb,↓qdd,↓qah,↓qag,↓qai,↓retQ,res,resAll,resOne,kill,apartOk,exp,injV,injB,pur,purs,purR,pursR,List.set_cons_zero,List.set_cons_succ,List.length_cons,List.length_nil,List.cons_append,List.nil_append,List.append_nil,List.append_assoc,List.length_append,List.reduceReplicate,Nat.reduceAdd,Nat.reduceMul,Nat.reduceSub,Nat.reduceEqDiff,Nat.reduceLT,Nat.zero_add,Nat.add_zero,Nat.mul_one,Int.reduceToNat,Int.toNat_natCast,Int.cast_ofNat_Int,Int.reduceLE,Int.reduceLT,Int.reduceEq,reduceCtorEq,↓reduceIte,Bool.true_eq_false,Bool.false_eq_true,Bool.not_true,Bool.not_false,true_and,and_true,and_assoc,qaj,sub1,qc8,qc7,qc9,List.length_replicate,Nat.le_refl,false_implies,true_implies,ne_eq,not_true_eq_false,not_false_eq_true,decide_true,decide_false,decide_eq_true_eq,decide_eq_false_iff_not,Bool.not_eq_true',Bool.not_eq_false']
  repeat (refine And.intro (by omega) ?_)
  refine awp_loopA (n := 41) hA [0, 3, 4, 5] (by decide +kernel) (fun i : Nat => [.slice 4 0 1 a.length a.length, .slice 5 0 1 16 16, .slice 6 0 1 16 16, .int .i64 i])
    (fun i => [.dead, .dead, .dead, .dead, .ints true .u32 a, .ints false .u32 (hfs i), .ints false .u32 Pm]) (fun i => i ≤ 16) (fun i => 16 - i) 0 ?_ (by omega) ?_
  · refine Hd.of [0, 1, 2, 3, 4, 5, 8] (by decide) (by decide) (by simp) ?_
    simp only [hfs,itr,gc,gcVs,gcV,posOf,gcH,gcB,Option.map_some,Option.map_none,List.replicate_zero,List.drop_zero,↓qax,↓qay,↓qa0,↓qaz,↓qcs,↓qbj,↓qa1,↓qcl,↓qb3,↓qci,↓qcb,↓qce,↓qcf,↓qb4,↓qcd,↓qcj,↓qb5,↓qcg,↓qch,↓qb6,↓qcc,↓qca,↓qb9,↓qb8,↓qb7,↓qa5,↓qbc,↓qa6,↓qbd,↓qa7,↓qbe,↓qa8,↓qbf,↓qa9,↓qbg,↓qba,↓qbh,↓qbb,↓qbi,↓qb2,↓qck,↓qfc,↓qco,↓qcp,↓qcq,↓qcn,↓qcm,↓qbm,↓qbn,↓qb0,↓qbv,↓qbq,↓qbu,↓qbz,↓qbw,↓qby,↓qbx,↓qbr,↓qbp,↓qb1,↓qbs,↓qbt,↓qbo,↓qez,↓qey,↓qe3,↓qe5,↓qe4,↓qex,↓qew,↓qet,↓qeu,↓qe2,↓qe1,↓qe0,qc5,↓qeq,↓qer,↓qev,↓qc4,↓qc2,↓qc3,↓qe7,↓qe8,↓qe9,↓qe6,qaa,↓qes,↓qef,↓qeg,↓qfb,↓qfa,↓qei,↓qdk,↓qds,↓qd9,↓qea,↓qen,↓qeo,↓qdo,↓qdp,↓qdr,↓qdq,↓qdx,↓qep,↓qdv,↓qej,↓qdn,↓qed,↓qek,↓qel,↓qem,↓qd1,↓qd0,↓qd2,↓qd3,↓qd5,↓qdz,↓qd6,↓qd8,↓qd7,↓qdl,↓qdm,↓qdy,↓qaw,↓qdw,↓qee,↓qec,↓qdj,↓qeh,↓qeb,↓qd4,qav,List.drop_zero,Nat.sub_zero,qcy,qct,qcu,qdh,qat,qas,qaf,List.map_cons,List.map_nil,List.zip_cons_cons,List.zip_nil_right,List.zip_nil_left,qau,evs,evp,mkB,repB,blen,qae,qad,qac,qab,qc1,qc0,qdg,qdi,qde,qdf,qcx,qcz,qcv,qcw,↓qdc,↓qdb,↓qdd,↓qah,↓qag,↓qai,↓retQ,res,resAll,resOne,kill,apartOk,exp,injV,injB,pur,purs,purR,pursR,List.set_cons_zero,List.set_cons_succ,List.length_cons,List.length_nil,List.cons_append,List.nil_append,List.append_nil,List.append_assoc,List.length_append,List.reduceReplicate,Nat.reduceAdd,Nat.reduceMul,Nat.reduceSub,Nat.reduceEqDiff,Nat.reduceLT,Nat.zero_add,Nat.add_zero,Nat.mul_one,Int.reduceToNat,Int.toNat_natCast,Int.cast_ofNat_Int,Int.reduceLE,Int.reduceLT,Int.reduceEq,reduceCtorEq,↓reduceIte,Bool.true_eq_false,Bool.false_eq_true,Bool.not_true,Bool.not_false,true_and,and_true,and_assoc,qaj,sub1,qc8,qc7,qc9,List.length_replicate,Nat.le_refl,false_implies,true_implies,ne_eq,not_true_eq_false,not_false_eq_true,decide_true,decide_false,decide_eq_true_eq,decide_eq_false_iff_not,Bool.not_eq_true',Bool.not_eq_false']
  intro i hi K hK
  have hl : (hfs i).length = 16 := itr_inv (fun _ (l : List Int) => l.length = 16) (by simp) (fun n l h => by simp [hst, h]) i
  simp only [s55, s37, s54, s77, s28, s82]
  by_cases hlt : i < 16
  · have c1 : (i : Int) < 16 := by omega
    have wi : Go.IntKind.i64.wrap ((i : Int) + 1) = ((i + 1 : Nat) : Int) := by rw [wrap_i64]; omega
    have hs1 : hfs (i + 1) = hst (hfs i) i := rfl
    have pp : pre77 [.s .u32 Pm, .v (.int .i64 ((i + 1 : Nat) : Int))] := ⟨Pm, i + 1, rfl⟩
    obtain ⟨w, hw⟩ : ∃ w, hfs i = w := ⟨_, rfl⟩
    rw [hw] at hl hs1
    rw [hw]
    simp only [c1,wi,hl,hlt,pp,sPm,Pm_len,s77,F77,qda,qc6,qaj,List.length_cons,List.length_nil,Nat.reduceAdd,Nat.le_refl,Nat.reduceLeDiff,Nat.reduceLT,true_and,and_true,↓qax,↓qay,↓qa0,↓qaz,↓qcs,↓qbj,↓qa1,↓qcl,↓qb3,↓qci,↓qcb,↓qce,↓qcf,↓qb4,↓qcd,↓qcj,↓qb5,↓qcg,↓qch,↓qb6,↓qcc,↓qca,↓qb9,↓qb8,↓qb7,↓qa5,↓qbc,↓qa6,↓qbd,↓qa7,↓qbe,↓qa8,↓qbf,↓qa9,↓qbg,↓qba,↓qbh,↓qbb,↓qbi,↓qb2,↓qck,↓qfc,↓qco,↓qcp,↓qcq,↓qcn,↓qcm,↓qbm,↓qbn,↓qb0,↓qbv,↓qbq,↓qbu,↓qbz,↓qbw,↓qby,↓qbx,↓qbr,↓qbp,↓qb1,↓qbs,↓qbt,↓qbo,↓qez,↓qey,↓qe3,↓qe5,↓qe4,↓qex,↓qew,↓qet,↓qeu,↓qe2,↓qe1,↓qe0,qc5,↓qeq,↓qer,↓qev,↓qc4,↓qc2,↓qc3,↓qe7,↓qe8,↓qe9,↓qe6,qaa,↓qes,↓qef,↓qeg,↓qfb,↓qfa,↓qei,↓qdk,↓qds,↓qd9,↓qea,↓qen,↓qeo,↓qdo,↓qdp,↓qdr,↓qdq,↓qdx,↓qep,↓qdv,↓qej,↓qdn,↓qed,↓qek,↓qel,↓qem,↓qd1,↓qd0,↓qd2,↓qd3,↓qd5,↓qdz,↓qd6,↓qd8,↓qd7,↓qdl,↓qdm,↓qdy,↓qaw,↓qdw,↓qee,↓qec,↓qdj,↓qeh,↓qeb,↓qd4,qav,List.drop_zero,Nat.sub_zero,qcy,qct,qcu,qdh,qat,qas,qaf,List.map_cons,List.map_nil,List.zip_cons_cons,List.zip_nil_right,List.zip_nil_left,qau,evs,evp,mkB,repB,blen,qae,qad,qac,qab,qc1,qc0,qdg,qdi,qde,qdf,qcx,qcz,qcv,qcw,↓qdc,↓qdb,↓qdd,↓qah,↓qag,↓qai,↓retQ,res,resAll,resOne,kill,apartOk,exp,injV,injB,pur,purs,purR,pursR,List.set_cons_zero,List.set_cons_succ,List.length_cons,List.length_nil,List.cons_append,List.nil_append,List.append_nil,List.append_assoc,List.length_append,List.reduceReplicate,Nat.reduceAdd,Nat.reduceMul,Nat.reduceSub,Nat.reduceEqDiff,Nat.reduceLT,Nat.zero_add,Nat.add_zero,Nat.mul_one,Int.reduceToNat,Int.toNat_natCast,Int.cast_ofNat_Int,Int.reduceLE,Int.reduceLT,Int.reduceEq,reduceCtorEq,↓reduceIte,Bool.true_eq_false,Bool.false_eq_true,Bool.not_true,Bool.not_false,true_and,and_true,and_assoc,qaj,sub1,qc8,qc7,qc9,List.length_replicate,Nat.le_refl,false_implies,true_implies,ne_eq,not_true_eq_false,not_false_eq_true,decide_true,decide_false,decide_eq_true_eq,decide_eq_false_iff_not,Bool.not_eq_true',Bool.not_eq_false']
    repeat (refine And.intro (by omega) ?_)
    refine ⟨i + 1, hK _ (by omega) (by omega), Hd.same ?_⟩
    simp only [hs1,hst,↓qax,↓qay,↓qa0,↓qaz,↓qcs,↓qbj,↓qa1,↓qcl,↓qb3,↓qci,↓qcb,↓qce,↓qcf,↓qb4,↓qcd,↓qcj,↓qb5,↓qcg,↓qch,↓qb6,↓qcc,↓qca,↓qb9,↓qb8,↓qb7,↓qa5,↓qbc,↓qa6,↓qbd,↓qa7,↓qbe,↓qa8,↓qbf,↓qa9,↓qbg,↓qba,↓qbh,↓qbb,↓qbi,↓qb2,↓qck,↓qfc,↓qco,↓qcp,↓qcq,↓qcn,↓qcm,↓qbm,↓qbn,↓qb0,↓qbv,↓qbq,↓qbu,↓qbz,↓qbw,↓qby,↓qbx,↓qbr,↓qbp,↓qb1,↓qbs,↓qbt,↓qbo,↓qez,↓qey,↓qe3,↓qe5,↓qe4,↓qex,↓qew,↓qet,↓qeu,↓qe2,↓qe1,↓qe0,qc5,↓qeq,↓qer,↓qev,↓qc4,↓qc2,↓qc3,↓qe7,↓qe8,↓qe9,↓qe6,qaa,↓qes,↓qef,↓qeg,↓qfb,↓qfa,↓qei,↓qdk,↓qds,↓qd9,↓qea,↓qen,↓qeo,↓qdo,↓qdp,↓qdr,↓qdq,↓qdx,↓qep,↓qdv,↓qej,↓qdn,↓qed,↓qek,↓qel,↓qem,↓qd1,↓qd0,↓qd2,↓qd3,↓qd5,↓qdz,↓qd6,↓qd8,↓qd7,↓qdl,↓qdm,↓qdy,↓qaw,↓qdw,↓qee,↓qec,↓qdj,↓qeh,↓qeb,↓qd4,qav,List.drop_zero,Nat.sub_zero,qcy,qct,qcu,qdh,qat,qas,qaf,List.map_cons,List.map_nil,List.zip_cons_cons,List.zip_nil_right,List.zip_nil_left,qau,evs,evp,mkB,repB,blen,qae,qad,qac,qab,qc1,qc0,qdg,qdi,qde,qdf,qcx,qcz,qcv,qcw,↓qdc,↓qdb,↓qdd,↓qah,↓qag,↓qai,↓retQ,res,resAll,resOne,kill,apartOk,exp,injV,injB,pur,purs,purR,pursR,List.set_cons_zero,List.set_cons_succ,List.length_cons,List.length_nil,List.cons_append,List.nil_append,List.append_nil,List.append_assoc,List.length_append,List.reduceReplicate,Nat.reduceAdd,Nat.reduceMul,Nat.reduceSub,Nat.reduceEqDiff,Nat.reduceLT,Nat.zero_add,Nat.add_zero,Nat.mul_one,Int.reduceToNat,Int.toNat_natCast,Int.cast_ofNat_Int,Int.reduceLE,Int.reduceLT,Int.reduceEq,reduceCtorEq,↓reduceIte,Bool.true_eq_false,Bool.false_eq_true,Bool.not_true,Bool.not_false,true_and,and_true,and_assoc,qaj,sub1,qc8,qc7,qc9,List.length_replicate,Nat.le_refl,false_implies,true_implies,ne_eq,not_true_eq_false,not_false_eq_true,decide_true,decide_false,decide_eq_true_eq,decide_eq_false_iff_not,Bool.not_eq_true',Bool.not_eq_false']
  obtain rfl : i = 16 := by omega
  have c1 : ¬((16 : Nat) : Int) < 16 := by omega
  obtain ⟨e, hee⟩ : ∃ e, hfs 16 = e := ⟨_, rfl⟩
  have he16 := hfs_16
  rw [hee] at he16 hl
  rw [hee]
  have hed : Dig 65536 e := by rw [he16]; exact dig_dig (by decide) _ _
  have hev : val 65536 e = Hh := by rw [he16]; exact val_dig (by decide) (by decide) (by decide)
  have se : sub e 0 16 = e := qda hl
  have pp : prePw [.s .u32 a, .s .u32 e] := ⟨_, _, rfl, ha, hed, by omega⟩
  have hq : sqL a = (decide (val 65536 (rpow a 256 Hh) = 1) || decide (val 65536 (rpow a 256 Hh) = 0)) := rfl
  have hrs : Shrt (rpow a 256 Hh) := by
    have : ∀ (n : Nat) {acc : List Int}, Shrt acc → Shrt (rpw a Hh n acc) := fun n => by
      induction n with
      | zero => exact fun h => h
      | succ n ih => exact fun h => ih (rpst_sh ha h)
    exact this 256 one_sh
  obtain ⟨r, hr⟩ : ∃ r, rpow a 256 Hh = r := ⟨_, rfl⟩
  have hr' : rpow a (16 * 16) Hh = r := hr
  rw [hr] at hq hrs
  have sr := qc8 r
  have z0 : Shrt (dig 65536 2 0) := ⟨dig_dig (by decide) _ _, by rw [qaj]; decide⟩
  have q1 := pre_ll hrs one_sh
  have q0 := pre_ll hrs z0
  have v1 : val 65536 (dig 65536 2 1) = 1 := by decide
  have v0 : val 65536 (dig 65536 2 0) = 0 := by decide
  by_cases h1 : val 65536 r = 1
  · have hqt : sqL a = true := by rw [hq, decide_eq_true h1]; rfl
    simp only [c1,hl,se,pp,hev,hr,hr',sa,sr,n1,n0,q1,q0,v1,v0,h1,hqt,s28,s37,s82,F28,F37,F82,qda,qc6,qaj,List.length_cons,List.length_nil,Nat.reduceAdd,Nat.le_refl,Nat.reduceLeDiff,Nat.reduceLT,true_and,and_true,↓qax,↓qay,↓qa0,↓qaz,↓qcs,↓qbj,↓qa1,↓qcl,↓qb3,↓qci,↓qcb,↓qce,↓qcf,↓qb4,↓qcd,↓qcj,↓qb5,↓qcg,↓qch,↓qb6,↓qcc,↓qca,↓qb9,↓qb8,↓qb7,↓qa5,↓qbc,↓qa6,↓qbd,↓qa7,↓qbe,↓qa8,↓qbf,↓qa9,↓qbg,↓qba,↓qbh,↓qbb,↓qbi,↓qb2,↓qck,↓qfc,↓qco,↓qcp,↓qcq,↓qcn,↓qcm,↓qbm,↓qbn,↓qb0,↓qbv,↓qbq,↓qbu,↓qbz,↓qbw,↓qby,↓qbx,↓qbr,↓qbp,↓qb1,↓qbs,↓qbt,↓qbo,↓qez,↓qey,↓qe3,↓qe5,↓qe4,↓qex,↓qew,↓qet,↓qeu,↓qe2,↓qe1,↓qe0,qc5,↓qeq,↓qer,↓qev,↓qc4,↓qc2,↓qc3,↓qe7,↓qe8,↓qe9,↓qe6,qaa,↓qes,↓qef,↓qeg,↓qfb,↓qfa,↓qei,↓qdk,↓qds,↓qd9,↓qea,↓qen,↓qeo,↓qdo,↓qdp,↓qdr,↓qdq,↓qdx,↓qep,↓qdv,↓qej,↓qdn,↓qed,↓qek,↓qel,↓qem,↓qd1,↓qd0,↓qd2,↓qd3,↓qd5,↓qdz,↓qd6,↓qd8,↓qd7,↓qdl,↓qdm,↓qdy,↓qaw,↓qdw,↓qee,↓qec,↓qdj,↓qeh,↓qeb,↓qd4,qav,List.drop_zero,Nat.sub_zero,qcy,qct,qcu,qdh,qat,qas,qaf,List.map_cons,List.map_nil,List.zip_cons_cons,List.zip_nil_right,List.zip_nil_left,qau,evs,evp,mkB,repB,blen,qae,qad,qac,qab,qc1,qc0,qdg,qdi,qde,qdf,qcx,qcz,qcv,qcw,↓qdc,↓qdb,↓qdd,↓qah,↓qag,↓qai,↓retQ,res,resAll,resOne,kill,apartOk,exp,injV,injB,pur,purs,purR,pursR,List.set_cons_zero,List.set_cons_succ,List.length_cons,List.length_nil,List.cons_append,List.nil_append,List.append_nil,List.append_assoc,List.length_append,List.reduceReplicate,Nat.reduceAdd,Nat.reduceMul,Nat.reduceSub,Nat.reduceEqDiff,Nat.reduceLT,Nat.zero_add,Nat.add_zero,Nat.mul_one,Int.reduceToNat,Int.toNat_natCast,Int.cast_ofNat_Int,Int.reduceLE,Int.reduceLT,Int.reduceEq,reduceCtorEq,↓reduceIte,Bool.true_eq_false,Bool.false_eq_true,Bool.not_true,Bool.not_false,true_and,and_true,and_assoc,qaj,sub1,qc8,qc7,qc9,List.length_replicate,Nat.le_refl,false_implies,true_implies,ne_eq,not_true_eq_false,not_false_eq_true,decide_true,decide_false,decide_eq_true_eq,decide_eq_false_iff_not,Bool.not_eq_true',Bool.not_eq_false']
    simp only [out, outs, out1, pur, and_self]
  · have hqt : sqL a = decide (val 65536 r = 0) := by rw [hq, decide_eq_false h1]; rfl
    simp only [c1,hl,se,pp,hev,hr,hr',sa,sr,n1,n0,q1,q0,v1,v0,h1,hqt,s28,s37,s82,F28,F37,F82,qda,qc6,qaj,List.length_cons,List.length_nil,Nat.reduceAdd,Nat.le_refl,Nat.reduceLeDiff,Nat.reduceLT,true_and,and_true,↓qax,↓qay,↓qa0,↓qaz,↓qcs,↓qbj,↓qa1,↓qcl,↓qb3,↓qci,↓qcb,↓qce,↓qcf,↓qb4,↓qcd,↓qcj,↓qb5,↓qcg,↓qch,↓qb6,↓qcc,↓qca,↓qb9,↓qb8,↓qb7,↓qa5,↓qbc,↓qa6,↓qbd,↓qa7,↓qbe,↓qa8,↓qbf,↓qa9,↓qbg,↓qba,↓qbh,↓qbb,↓qbi,↓qb2,↓qck,↓qfc,↓qco,↓qcp,↓qcq,↓qcn,↓qcm,↓qbm,↓qbn,↓qb0,↓qbv,↓qbq,↓qbu,↓qbz,↓qbw,↓qby,↓qbx,↓qbr,↓qbp,↓qb1,↓qbs,↓qbt,↓qbo,↓qez,↓qey,↓qe3,↓qe5,↓qe4,↓qex,↓qew,↓qet,↓qeu,↓qe2,↓qe1,↓qe0,qc5,↓qeq,↓qer,↓qev,↓qc4,↓qc2,↓qc3,↓qe7,↓qe8,↓qe9,↓qe6,qaa,↓qes,↓qef,↓qeg,↓qfb,↓qfa,↓qei,↓qdk,↓qds,↓qd9,↓qea,↓qen,↓qeo,↓qdo,↓qdp,↓qdr,↓qdq,↓qdx,↓qep,↓qdv,↓qej,↓qdn,↓qed,↓qek,↓qel,↓qem,↓qd1,↓qd0,↓qd2,↓qd3,↓qd5,↓qdz,↓qd6,↓qd8,↓qd7,↓qdl,↓qdm,↓qdy,↓qaw,↓qdw,↓qee,↓qec,↓qdj,↓qeh,↓qeb,↓qd4,qav,List.drop_zero,Nat.sub_zero,qcy,qct,qcu,qdh,qat,qas,qaf,List.map_cons,List.map_nil,List.zip_cons_cons,List.zip_nil_right,List.zip_nil_left,qau,evs,evp,mkB,repB,blen,qae,qad,qac,qab,qc1,qc0,qdg,qdi,qde,qdf,qcx,qcz,qcv,qcw,↓qdc,↓qdb,↓qdd,↓qah,↓qag,↓qai,↓retQ,res,resAll,resOne,kill,apartOk,exp,injV,injB,pur,purs,purR,pursR,List.set_cons_zero,List.set_cons_succ,List.length_cons,List.length_nil,List.cons_append,List.nil_append,List.append_nil,List.append_assoc,List.length_append,List.reduceReplicate,Nat.reduceAdd,Nat.reduceMul,Nat.reduceSub,Nat.reduceEqDiff,Nat.reduceLT,Nat.zero_add,Nat.add_zero,Nat.mul_one,Int.reduceToNat,Int.toNat_natCast,Int.cast_ofNat_Int,Int.reduceLE,Int.reduceLT,Int.reduceEq,reduceCtorEq,↓reduceIte,Bool.true_eq_false,Bool.false_eq_true,Bool.not_true,Bool.not_false,true_and,and_true,and_assoc,qaj,sub1,qc8,qc7,qc9,List.length_replicate,Nat.le_refl,false_implies,true_implies,ne_eq,not_true_eq_false,not_false_eq_true,decide_true,decide_false,decide_eq_true_eq,decide_eq_false_iff_not,Bool.not_eq_true',Bool.not_eq_false']
    simp only [out, outs, out1, pur, and_self]
/-! ### Root -/
def rtR (X Y : List Int) : List Int := mulF (mulF X (mulF (mulF Y Y) Y)) (powF (mulF (mulF (mulF X (mulF (mulF Y Y) Y)) (mulF (mulF Y Y) Y)) Y) (lessN 5 3))
def rtC (X Y : List Int) : List Int := mulF (mulF Y (rtR X Y)) (rtR X Y)
def rtI (X Y : List Int) : List Int := mulF (rtR X Y) (powF [2, 0, 0, 0, 0] (lessN 1 2))
def rootF (X Y : List Int) : List Int × Bool := if bytesF (rtC X Y) = bytesF X then (rtR X Y, true) else if bytesF (rtC X Y) = bytesF (subF [0, 0, 0, 0, 0] X) then (rtI X Y, true) else ([0, 0, 0, 0, 0], false)
def F46 : List D → Out
  | [.v (.ints _ X), .v (.ints _ Y)] => .many [.v (.ints .u64 (rootF X Y).1), .v (.bool (rootF X Y).2)]
  | _ => bad
def s46 : Summ := sData [.v, .v] preEE F46
theorem El.pk' {xs : List Int} {x : Int} (h : El xs x) (v : Int) : preEK [.v (.ints .u64 xs), .v (.ints .u8 (dig 256 32 v))] := h.pk (key_dig32 v)
set_option maxHeartbeats 4000000 in
theorem ok46 {g : List Blk} [Ge gl g] : SumOK Try.prog g 46 s46 ∧ SumAbs s46 := by
  refine fsumA (l := [(39, s39), (78, s78), (26, s26), (34, s34), (45, s45), (36, s36)]) mixed gl_plain rfl Try.func46 comp46 compR46 nt46 (by simp only [List.mem_cons, List.not_mem_nil, or_false, forall_eq_or_imp, forall_eq]; exact ⟨ok39, ok78, ok26, ok34, ok45, ok36⟩) fun ds ⟨X, Y, hd, fX, fY⟩ hA => ?_
  subst hd
  have eX := El.of fX
  have eY := El.of fY
  obtain ⟨A, hA1⟩ : ∃ A, mulF Y Y = A := ⟨_, rfl⟩
  have eA := mul_el eY eY
  obtain ⟨B, hB⟩ : ∃ B, mulF A Y = B := ⟨_, rfl⟩
  rw [hA1] at eA
  have eB := mul_el eA eY
  rw [hB] at eB
  obtain ⟨C, hC⟩ : ∃ C, mulF X B = C := ⟨_, rfl⟩
  have eC := mul_el eX eB
  rw [hC] at eC
  obtain ⟨E, hE⟩ : ∃ E, mulF C B = E := ⟨_, rfl⟩
  have eE := mul_el eC eB
  rw [hE] at eE
  obtain ⟨G, hG⟩ : ∃ G, mulF E Y = G := ⟨_, rfl⟩
  have eG := mul_el eE eY
  rw [hG] at eG
  obtain ⟨H, hH⟩ : ∃ H, powF G (lessN 5 3) = H := ⟨_, rfl⟩
  have eH := pow_el (lessN 5 3) eG
  rw [hH] at eH
  obtain ⟨R, hR⟩ : ∃ R, mulF C H = R := ⟨_, rfl⟩
  have eR := mul_el eC eH
  rw [hR] at eR
  have hR' : rtR X Y = R := by rw [rtR, hA1, hB, hC, hE, hG, hH, hR]
  obtain ⟨J, hJ⟩ : ∃ J, mulF Y R = J := ⟨_, rfl⟩
  have eJ := mul_el eY eR
  rw [hJ] at eJ
  obtain ⟨K, hK⟩ : ∃ K, mulF J R = K := ⟨_, rfl⟩
  have eK := mul_el eJ eR
  rw [hK] at eK
  have hK' : rtC X Y = K := by rw [rtC, hR', hJ, hK]
  obtain ⟨M, hM⟩ : ∃ M, subF [0, 0, 0, 0, 0] X = M := ⟨_, rfl⟩
  have eM := neg_el eX
  rw [hM] at eM
  have e2 : El [2, 0, 0, 0, 0] 2 := small_el (by decide) (by decide)
  obtain ⟨I, hI⟩ : ∃ I, powF [2, 0, 0, 0, 0] (lessN 1 2) = I := ⟨_, rfl⟩
  have eI := pow_el (lessN 1 2) e2
  rw [hI] at eI
  obtain ⟨T, hT⟩ : ∃ T, mulF R I = T := ⟨_, rfl⟩
  have eT := mul_el eR eI
  rw [hT] at eT
  have hT' : rtI X Y = T := by rw [rtI, hR', hI, hT]
  have hF : rootF X Y = if bytesF K = bytesF X then (R, true) else if bytesF K = bytesF M then (T, true) else ([0, 0, 0, 0, 0], false) := by
    rw [rootF, hK', hR', hT', hM]
  have u2 : preU32 [.v (.int .u32 2)] := ⟨2, rfl, by decide, by decide⟩
  have q5 : preLess [.v (.int .u8 5), .v (.int .i64 3)] := ⟨5, 3, rfl, by decide, by decide, by decide⟩
  have q1 : preLess [.v (.int .u8 1), .v (.int .i64 2)] := ⟨1, 2, rfl, by decide, by decide, by decide⟩
  have w5 : val 256 (dig 256 32 (lessN 5 3)) = lessN 5 3 := val_less (by decide) (by decide)
  have w1 : val 256 (dig 256 32 (lessN 1 2)) = lessN 1 2 := val_less (by decide) (by decide)
  have t3 : (3 : Int).toNat = 3 := rfl
  have t2 : (2 : Int).toNat = 2 := rfl
  have lX := eX.len
  have lY := eY.len
  have lB := eB.len
  have lR := eR.len
  have lK := eK.len
  have lT := eT.len
  have z : ∀ {Z : List Int}, Z.length = 5 → sub Z 0 5 = Z ∧ spl [0, 0, 0, 0, 0] 0 Z = Z := fun h => ⟨qda h, qc6 (by simp [h])⟩
  have sX := (z lX).1
  have sY := (z lY).1
  have sB := z lB
  have sR := z lR
  have sK := z lK
  have sT := z lT
  have p1 := eY.p2 eY
  have p2 := eA.p2 eY
  have p3 := eX.p2 eB
  have p4 := eC.p2 eB
  have p5 := eE.p2 eY
  have p6 := eG.pk' (lessN 5 3)
  have p7 := eC.p2 eH
  have p8 := eY.p2 eR
  have p9 := eJ.p2 eR
  have p10 := eK.p2 eX
  have p11 := eX.p1
  have p12 := eK.p2 eM
  have p13 := e2.pk' (lessN 1 2)
  have p14 := eR.p2 eI
  simp only [s39, s78, s26, s34, s45, s36]
  by_cases h1 : bytesF K = bytesF X
  · rw [if_pos h1] at hF
    simp only [ir46,rs46,gl,F46,hF,hA1,hB,hC,hE,hG,hH,hR,hJ,hK,q5,w5,t3,lX,lY,lB,lR,lK,sX,sY,sB.1,sB.2,sR.1,sR.2,sK.1,sK.2,p1,p2,p3,p4,p5,p6,p7,p8,p9,p10,h1,s39,s78,s26,s34,F39,F78,F26,F34,eq_self,qda,qc6,qaj,List.length_cons,List.length_nil,Nat.reduceAdd,Nat.le_refl,Nat.reduceLeDiff,Nat.reduceLT,true_and,and_true,↓qax,↓qay,↓qa0,↓qaz,↓qcs,↓qbj,↓qa1,↓qcl,↓qb3,↓qci,↓qcb,↓qce,↓qcf,↓qb4,↓qcd,↓qcj,↓qb5,↓qcg,↓qch,↓qb6,↓qcc,↓qca,↓qb9,↓qb8,↓qb7,↓qa5,↓qbc,↓qa6,↓qbd,↓qa7,↓qbe,↓qa8,↓qbf,↓qa9,↓qbg,↓qba,↓qbh,↓qbb,↓qbi,↓qb2,↓qck,↓qfc,↓qco,↓qcp,↓qcq,↓qcn,↓qcm,↓qbm,↓qbn,↓qb0,↓qbv,↓qbq,↓qbu,↓qbz,↓qbw,↓qby,↓qbx,↓qbr,↓qbp,↓qb1,↓qbs,↓qbt,↓qbo,↓qez,↓qey,↓qe3,↓qe5,↓qe4,↓qex,↓qew,↓qet,↓qeu,↓qe2,↓qe1,↓qe0,qc5,↓qeq,↓qer,↓qev,↓qc4,↓qc2,↓qc3,↓qe7,↓qe8,↓qe9,↓qe6,qaa,↓qes,↓qef,↓qeg,↓qfb,↓qfa,↓qei,↓qdk,↓qds,↓qd9,↓qea,↓qen,↓qeo,↓qdo,↓qdp,↓qdr,↓qdq,↓qdx,↓qep,↓qdv,↓qej,↓qdn,↓qed,↓qek,↓qel,↓qem,↓qd1,↓qd0,↓qd2,↓qd3,↓qd5,↓qdz,↓qd6,↓qd8,↓qd7,↓qdl,↓qdm,↓qdy,↓qaw,↓qdw,↓qee,↓qec,↓qdj,↓qeh,↓qeb,↓qd4,qav,List.drop_zero,Nat.sub_zero,qcy,qct,qcu,qdh,qat,qas,qaf,List.map_cons,List.map_nil,List.zip_cons_cons,List.zip_nil_right,List.zip_nil_left,qau,evs,evp,mkB,repB,blen,qae,qad,qac,qab,qc1,qc0,qdg,qdi,qde,qdf,qcx,qcz,qcv,qcw,↓qdc,↓qdb,↓qdd,↓qah,↓qag,↓qai,↓retQ,res,resAll,resOne,kill,apartOk,exp,injV,injB,pur,purs,purR,pursR,List.set_cons_zero,List.set_cons_succ,List.length_cons,List.length_nil,List.cons_append,List.nil_append,List.append_nil,List.append_assoc,List.length_append,List.reduceReplicate,Nat.reduceAdd,Nat.reduceMul,Nat.reduceSub,Nat.reduceEqDiff,Nat.reduceLT,Nat.zero_add,Nat.add_zero,Nat.mul_one,Int.reduceToNat,Int.toNat_natCast,Int.cast_ofNat_Int,Int.reduceLE,Int.reduceLT,Int.reduceEq,reduceCtorEq,↓reduceIte,Bool.true_eq_false,Bool.false_eq_true,Bool.not_true,Bool.not_false,true_and,and_true,and_assoc,qaj,sub1,qc8,qc7,qc9,List.length_replicate,Nat.le_refl,false_implies,true_implies,ne_eq,not_true_eq_false,not_false_eq_true,decide_true,decide_false,decide_eq_true_eq,decide_eq_false_iff_not,Bool.not_eq_true',Bool.not_eq_false']
    repeat (refine And.intro (by omega) ?_)
    simp only [out, outs, out1, pur, and_self]
  rw [if_neg h1] at hF
  by_cases h2 : bytesF K = bytesF M
  · rw [if_pos h2] at hF
    have h1' : ¬ bytesF M = bytesF X := fun e => h1 (h2.trans e)
    simp only [ir46,rs46,gl,F46,hF,hA1,hB,hC,hE,hG,hH,hR,hJ,hK,hM,hI,hT,u2,q5,q1,w5,w1,t3,t2,lX,lY,lB,lR,lK,lT,sX,sY,sB.1,sB.2,sR.1,sR.2,sK.1,sK.2,sT.1,sT.2,p1,p2,p3,p4,p5,p6,p7,p8,p9,p10,p11,p12,p13,p14,h1',h2,s39,s78,s26,s34,s45,s36,F39,F78,F26,F34,F45,F36,eq_self,qda,qc6,qaj,List.length_cons,List.length_nil,Nat.reduceAdd,Nat.le_refl,Nat.reduceLeDiff,Nat.reduceLT,true_and,and_true,↓qax,↓qay,↓qa0,↓qaz,↓qcs,↓qbj,↓qa1,↓qcl,↓qb3,↓qci,↓qcb,↓qce,↓qcf,↓qb4,↓qcd,↓qcj,↓qb5,↓qcg,↓qch,↓qb6,↓qcc,↓qca,↓qb9,↓qb8,↓qb7,↓qa5,↓qbc,↓qa6,↓qbd,↓qa7,↓qbe,↓qa8,↓qbf,↓qa9,↓qbg,↓qba,↓qbh,↓qbb,↓qbi,↓qb2,↓qck,↓qfc,↓qco,↓qcp,↓qcq,↓qcn,↓qcm,↓qbm,↓qbn,↓qb0,↓qbv,↓qbq,↓qbu,↓qbz,↓qbw,↓qby,↓qbx,↓qbr,↓qbp,↓qb1,↓qbs,↓qbt,↓qbo,↓qez,↓qey,↓qe3,↓qe5,↓qe4,↓qex,↓qew,↓qet,↓qeu,↓qe2,↓qe1,↓qe0,qc5,↓qeq,↓qer,↓qev,↓qc4,↓qc2,↓qc3,↓qe7,↓qe8,↓qe9,↓qe6,qaa,↓qes,↓qef,↓qeg,↓qfb,↓qfa,↓qei,↓qdk,↓qds,↓qd9,↓qea,↓qen,↓qeo,↓qdo,↓qdp,↓qdr,↓qdq,↓qdx,↓qep,↓qdv,↓qej,↓qdn,↓qed,↓qek,↓qel,↓qem,↓qd1,↓qd0,↓qd2,↓qd3,↓qd5,↓qdz,↓qd6,↓qd8,↓qd7,↓qdl,↓qdm,↓qdy,↓qaw,↓qdw,↓qee,↓qec,↓qdj,↓qeh,↓qeb,↓qd4,qav,List.drop_zero,Nat.sub_zero,qcy,qct,qcu,qdh,qat,qas,qaf,List.map_cons,List.map_nil,List.zip_cons_cons,List.zip_nil_right,List.zip_nil_left,qau,evs,evp,mkB,repB,blen,qae,qad,qac,qab,qc1,qc0,qdg,qdi,qde,qdf,qcx,qcz,qcv,qcw,↓qdc,↓qdb,↓qdd,↓qah,↓qag,↓qai,↓retQ,res,resAll,resOne,kill,apartOk,exp,injV,injB,pur,purs,purR,pursR,List.set_cons_zero,List.set_cons_succ,List.length_cons,List.length_nil,List.cons_append,List.nil_append,List.append_nil,List.append_assoc,List.length_append,List.reduceReplicate,Nat.reduceAdd,Nat.reduceMul,Nat.reduceSub,Nat.reduceEqDiff,Nat.reduceLT,Nat.zero_add,Nat.add_zero,Nat.mul_one,Int.reduceToNat,Int.toNat_natCast,Int.cast_ofNat_Int,Int.reduceLE,Int.reduceLT,Int.reduceEq,reduceCtorEq,↓reduceIte,Bool.true_eq_false,Bool.false_eq_true,Bool.not_true,Bool.not_false,true_and,and_true,and_assoc,qaj,sub1,qc8,qc7,qc9,List.length_replicate,Nat.le_refl,false_implies,true_implies,ne_eq,not_true_eq_false,not_false_eq_true,decide_true,decide_false,decide_eq_true_eq,decide_eq_false_iff_not,Bool.not_eq_true',Bool.not_eq_false']
    repeat (refine And.intro (by omega) ?_)
    simp only [out, outs, out1, pur, and_self]
  · rw [if_neg h2] at hF
    have sz : spl [0, 0, 0, 0, 0] 0 [0, 0, 0, 0, 0] = ([0, 0, 0, 0, 0] : List Int) := rfl
    simp only [ir46,rs46,gl,F46,hF,hA1,hB,hC,hE,hG,hH,hR,hJ,hK,hM,q5,w5,t3,lX,lY,lB,lR,lK,sX,sY,sB.1,sB.2,sR.1,sR.2,sK.1,sK.2,sz,p1,p2,p3,p4,p5,p6,p7,p8,p9,p10,p11,p12,h1,h2,s39,s78,s26,s34,s45,F39,F78,F26,F34,F45,eq_self,qda,qc6,qaj,List.length_cons,List.length_nil,Nat.reduceAdd,Nat.le_refl,Nat.reduceLeDiff,Nat.reduceLT,true_and,and_true,↓qax,↓qay,↓qa0,↓qaz,↓qcs,↓qbj,↓qa1,↓qcl,↓qb3,↓qci,↓qcb,↓qce,↓qcf,↓qb4,↓qcd,↓qcj,↓qb5,↓qcg,↓qch,↓qb6,↓qcc,↓qca,↓qb9,↓qb8,↓qb7,↓qa5,↓qbc,↓qa6,↓qbd,↓qa7,↓qbe,↓qa8,↓qbf,↓qa9,↓qbg,↓qba,↓qbh,↓qbb,↓qbi,↓qb2,↓qck,↓qfc,↓qco,↓qcp,↓qcq,↓qcn,↓qcm,↓qbm,↓qbn,↓qb0,↓qbv,↓qbq,↓qbu,↓qbz,↓qbw,↓qby,↓qbx,↓qbr,↓qbp,↓qb1,↓qbs,↓qbt,↓qbo,↓qez,↓qey,↓qe3,↓qe5,↓qe4,↓qex,↓qew,↓qet,↓qeu,↓qe2,↓qe1,↓qe0,qc5,↓qeq,↓qer,↓qev,↓qc4,↓qc2,↓qc3,↓qe7,↓qe8,↓qe9,↓qe6,qaa,↓qes,↓qef,↓qeg,↓qfb,↓qfa,↓qei,↓qdk,↓qds,↓qd9,↓qea,↓qen,↓qeo,↓qdo,↓qdp,↓qdr,↓qdq,↓qdx,↓qep,↓qdv,↓qej,↓qdn,↓qed,↓qek,↓qel,↓qem,↓qd1,↓qd0,↓qd2,↓qd3,↓qd5,↓qdz,↓qd6,↓qd8,↓qd7,↓qdl,↓qdm,↓qdy,↓qaw,↓qdw,↓qee,↓qec,↓qdj,↓qeh,↓qeb,↓qd4,qav,List.drop_zero,Nat.sub_zero,qcy,qct,qcu,qdh,qat,qas,qaf,List.map_cons,List.map_nil,List.zip_cons_cons,List.zip_nil_right,List.zip_nil_left,qau,evs,evp,mkB,repB,blen,qae,qad,qac,qab,qc1,qc0,qdg,qdi,qde,qdf,qcx,qcz,qcv,qcw,↓qdc,↓qdb,↓qdd,↓qah,↓qag,↓qai,↓retQ,res,resAll,resOne,kill,apartOk,exp,injV,injB,pur,purs,purR,pursR,List.set_cons_zero,List.set_cons_succ,List.length_cons,List.length_nil,List.cons_append,List.nil_append,List.append_nil,List.append_assoc,List.length_append,List.reduceReplicate,Nat.reduceAdd,Nat.reduceMul,Nat.reduceSub,Nat.reduceEqDiff,Nat.reduceLT,Nat.zero_add,Nat.add_zero,Nat.mul_one,Int.reduceToNat,Int.toNat_natCast,Int.cast_ofNat_Int,Int.reduceLE,Int.reduceLT,Int.reduceEq,reduceCtorEq,↓reduceIte,Bool.true_eq_false,Bool.false_eq_true,Bool.not_true,Bool.not_false,true_and,and_true,and_assoc,qaj,sub1,qc8,qc7,qc9,List.length_replicate,Nat.le_refl,false_implies,true_implies,ne_eq,not_true_eq_false,not_false_eq_true,decide_true,decide_false,decide_eq_true_eq,decide_eq_false_iff_not,Bool.not_eq_true',Bool.not_eq_false']
    repeat (refine And.intro (by omega) ?_)
    simp only [out, outs, out1, pur, and_self]
end Am
set_option linter.unusedSimpArgs false
set_option linter.unusedVariables false
set_option maxRecDepth 20000
namespace Am
/-! ### Roots: the plain law -/
theorem pmod (a : Int) : ∀ k : Nat, (a % Pp) ^ k % Pp = a ^ k % Pp
  | 0 => by simp
  | k + 1 => by rw [Int.pow_succ, Int.pow_succ, Int.mul_emod, pmod a k, Int.emod_emod_of_dvd _ (Int.dvd_refl _), ← Int.mul_emod]
theorem fer {x : Int} (h : x % Pp ≠ 0) : x ^ qP % Pp = 1 := by
  have h0 : 0 ≤ x % Pp := Int.emod_nonneg _ (by decide)
  have h1 : x % Pp < Pp := Int.emod_lt_of_pos _ (by decide)
  rw [← pmod]; exact fermat (by omega) h1
theorem pzero {a b : Int} (h : a * b % Pp = 0) : a % Pp = 0 ∨ b % Pp = 0 := by
  by_cases ha : a % Pp = 0
  · exact .inl ha
  · right
    have hf := fer ha
    rw [qPI, Int.pow_succ] at hf
    generalize a ^ qI = c at hf
    have h2 : c * a * b % Pp = 0 := by rw [Int.mul_assoc, ← fm2, h, Int.mul_zero]; rfl
    rw [← fm1, hf, Int.one_mul] at h2
    exact h2
theorem nz_mul {a b : Int} (ha : a % Pp ≠ 0) (hb : b % Pp ≠ 0) : a * b % Pp ≠ 0 := fun h => (pzero h).elim ha hb
theorem sub_zero_iff {a b : Int} : (a - b) % Pp = 0 ↔ a % Pp = b % Pp := by
  constructor
  · intro h; exact Int.emod_eq_emod_iff_emod_sub_eq_zero.2 h
  · intro h; exact Int.emod_eq_emod_iff_emod_sub_eq_zero.1 h
/-- A square that is 1. -/
theorem sq_one {u : Int} (h : u * u % Pp = 1) : u % Pp = 1 ∨ u % Pp = (-1) % Pp := by
  have h1 : (u - 1) * (u + 1) % Pp = 0 := by
    have : (u * u - 1) % Pp = 0 := sub_zero_iff.2 (by rw [h]; rfl)
    rw [← this]; congr 1; grind
  rcases pzero h1 with h | h
  · left; rw [sub_zero_iff] at h; exact h.trans (by decide)
  · right
    have : (u - (-1)) % Pp = 0 := by rw [show u - -1 = u + 1 by omega]; exact h
    exact sub_zero_iff.1 this
theorem cancel {x a b : Int} (hx : x % Pp ≠ 0) (h : x * a % Pp = x * b % Pp) : a % Pp = b % Pp := by
  have h1 : x * (a - b) % Pp = 0 := by rw [Int.mul_sub]; exact sub_zero_iff.2 h
  rcases pzero h1 with h | h
  · exact absurd h hx
  · exact sub_zero_iff.1 h
def nE : Nat := 7237005577332262213973186563042994240829374041602535252466099000494570602493
def nQ : Nat := 14474011154664524427946373126085988481658748083205070504932198000989141204987
def nH : Nat := 28948022309329048855892746252171976963317496166410141009864396001978282409974
theorem E_eq : lessN 5 3 = (nE : Int) := by decide
theorem Q_eq : lessN 1 2 = (nQ : Int) := by decide
theorem H_eq : Hh = (nH : Int) := by decide
theorem QE : nQ = nE + nE + 1 := rfl
theorem HQ : nH = nQ + nQ := rfl
theorem PH : qP = nH + nH := rfl
theorem i_sq : pw 2 (lessN 1 2) * pw 2 (lessN 1 2) % Pp = (-1) % Pp := by decide +kernel
/-- The roots' values. -/
def vr (x y : Int) : Int := x * (y * y * y) * (x * (y * y * y * (y * y * y) * y)) ^ nE
theorem rtR_el {X Y : List Int} {x y : Int} (hX : El X x) (hY : El Y y) : El (rtR X Y) (vr x y % Pp) := by
  have eA := mul_el hY hY
  have eB := mul_el eA hY
  have eC := mul_el hX eB
  have eE := mul_el eC eB
  have eG := mul_el eE hY
  have eH := pow_el (lessN 5 3) eG
  have eR := mul_el eC eH
  have hb := eG.bd
  rw [E_eq, pw_pow hb.1 hb.2 (by decide)] at eR
  have e : x * (y * y % Pp * y % Pp) % Pp * ((x * (y * y % Pp * y % Pp) % Pp * (y * y % Pp * y % Pp) % Pp * y % Pp) ^ nE % Pp) % Pp = vr x y % Pp := by
    simp only [fm1, fm2, pmod]
    have : x * (y * y * y) * (y * y * y) * y = x * (y * y * y * (y * y * y) * y) := by grind
    rw [this]; rfl
  rw [e] at eR
  exact eR
theorem rtC_el {X Y : List Int} {x y : Int} (hX : El X x) (hY : El Y y) : El (rtC X Y) (x * (x * (y * y * y * (y * y * y) * y)) ^ nQ % Pp) := by
  have eR := rtR_el hX hY
  have h := mul_el (mul_el hY eR) eR
  have e : y * (vr x y % Pp) % Pp * (vr x y % Pp) % Pp = x * (x * (y * y * y * (y * y * y) * y)) ^ nQ % Pp := by
    simp only [fm1, fm2]
    unfold vr
    rw [QE, Int.pow_succ, Int.pow_add]
    generalize (x * (y * y * y * (y * y * y) * y)) ^ nE = t
    congr 1
    grind
  rw [e] at h
  exact h
theorem rtI_el {X Y : List Int} {x y : Int} (hX : El X x) (hY : El Y y) : El (rtI X Y) (vr x y * pw 2 (lessN 1 2) % Pp) := by
  have h := mul_el (rtR_el hX hY) (pow_el (lessN 1 2) (small_el (n := 2) (by decide) (by decide)))
  rw [fm1] at h
  exact h
theorem vr_sq (x y : Int) : vr x y * vr x y * y % Pp = x * (x * (y * y * y * (y * y * y) * y)) ^ nQ % Pp := by
  unfold vr
  rw [QE, Int.pow_succ, Int.pow_add]
  generalize (x * (y * y * y * (y * y * y) * y)) ^ nE = t
  congr 1
  grind
def sqv (a : Int) : Bool := decide (a ^ nH % Pp = 1) || decide (a ^ nH % Pp = 0)
theorem sqL_val {a : List Int} {x : Int} (h : Lg a x) : sqL a = sqv x := by
  have hr := rpow_lg Hh h
  have hp : pw x Hh = x ^ nH % Pp := by rw [H_eq]; exact pw_pow h.lo h.hi (by decide)
  unfold sqL sqv
  rw [hr.is, hp]
theorem pow_zero_mod {x : Int} (h : x % Pp = 0) {k : Nat} (hk : k ≠ 0) : x ^ k % Pp = 0 := by
  rw [← pmod, h, Int.zero_pow hk]; rfl
/-- What Root answers. -/
theorem root_spec {X Y : List Int} {x y : Int} (hX : El X x) (hY : El Y y) : ∃ v, El (rootF X Y).1 v ∧ ((rootF X Y).2 = true → v * v * y % Pp = x) ∧ ((rootF X Y).2 = false → v = 0) ∧
    (y = 0 → (rootF X Y).2 = decide (x = 0)) ∧ (y ≠ 0 → ∀ a : Int, a * y % Pp = x → (rootF X Y).2 = sqv a) := by
  have hxb := hX.bd
  have hyb := hY.bd
  have hx0 : x % Pp = x := Int.emod_eq_of_lt hxb.1 hxb.2
  have hy0 : y % Pp = y := Int.emod_eq_of_lt hyb.1 hyb.2
  have eR := rtR_el hX hY
  have eC := rtC_el hX hY
  have eI := rtI_el hX hY
  have eN := neg_el hX
  obtain ⟨w, hw⟩ : ∃ w, x * (y * y * y * (y * y * y) * y) = w := ⟨_, rfl⟩
  rw [hw] at eC
  have hsq := vr_sq x y
  rw [hw] at hsq
  have hA : bytesF (rtC X Y) = bytesF X ↔ x * w ^ nQ % Pp = x := by
    rw [eC.bytes, hX.bytes]; exact dig_inj eC.bd.1 eC.bd.2 hxb.1 hxb.2
  have hB : bytesF (rtC X Y) = bytesF (subF [0, 0, 0, 0, 0] X) ↔ x * w ^ nQ % Pp = (-x) % Pp := by
    rw [eC.bytes, eN.bytes]; exact dig_inj eC.bd.1 eC.bd.2 eN.bd.1 eN.bd.2
  -- when there is one
  have hok : (rootF X Y).2 = true ↔ (x * w ^ nQ % Pp = x ∨ x * w ^ nQ % Pp = (-x) % Pp) := by
    unfold rootF
    by_cases h1 : bytesF (rtC X Y) = bytesF X
    · rw [if_pos h1]; exact ⟨fun _ => .inl (hA.1 h1), fun _ => rfl⟩
    · rw [if_neg h1]
      by_cases h2 : bytesF (rtC X Y) = bytesF (subF [0, 0, 0, 0, 0] X)
      · rw [if_pos h2]; exact ⟨fun _ => .inr (hB.1 h2), fun _ => rfl⟩
      · rw [if_neg h2]
        exact ⟨fun h => by simp at h, fun h => h.elim (fun h => absurd (hA.2 h) h1) (fun h => absurd (hB.2 h) h2)⟩
  have key : (y = 0 → (rootF X Y).2 = decide (x = 0)) ∧ (y ≠ 0 → ∀ a : Int, a * y % Pp = x → (rootF X Y).2 = sqv a) := by
    refine ⟨fun h0 => ?_, fun hyn a ha => ?_⟩
    · have hw0 : w = 0 := by rw [← hw, h0]; simp
      have e : x * w ^ nQ % Pp = 0 := by rw [hw0, Int.zero_pow (by decide), Int.mul_zero]; rfl
      rw [e] at hok
      by_cases hx : x = 0
      · rw [decide_eq_true hx]; exact hok.2 (.inl hx.symm)
      · rw [decide_eq_false hx]
        cases hc : (rootF X Y).2
        · rfl
        · rw [hc] at hok
          rcases hok.1 rfl with h | h
          · exact absurd h.symm hx
          · exfalso
            have := sub_zero_iff.2 (show (0 : Int) % Pp = (-x) % Pp by rw [← h]; rfl)
            rw [show (0 : Int) - -x = x by omega, hx0] at this
            exact hx this
    · have hyn' : y % Pp ≠ 0 := by rw [hy0]; exact hyn
      by_cases hx : x = 0
      · have e : x * w ^ nQ % Pp = x := by rw [hx, Int.zero_mul]; rfl
        have ha0 : a % Pp = 0 := by
          rcases pzero (show a * y % Pp = 0 by rw [ha, hx]) with h | h
          · exact h
          · exact absurd h hyn'
        have : sqv a = true := by
          unfold sqv; rw [pow_zero_mod ha0 (by decide)]; rfl
        rw [this]; exact hok.2 (.inl e)
      · have hxn : x % Pp ≠ 0 := by rw [hx0]; exact hx
        have hy7 : (y * y * y * (y * y * y) * y) % Pp ≠ 0 := nz_mul (nz_mul (nz_mul (nz_mul hyn' hyn') hyn') (nz_mul (nz_mul hyn' hyn') hyn')) hyn'
        have hwn : w % Pp ≠ 0 := fun h => by
          rw [← hw] at h
          rcases pzero h with h | h
          · exact hxn h
          · exact hy7 h
        have hf := fer hwn
        rw [PH, HQ] at hf
        obtain ⟨u, hu⟩ : ∃ u, w ^ nQ = u := ⟨_, rfl⟩
        have hu4 : u * u * (u * u) % Pp = 1 := by rw [← hf, Int.pow_add, Int.pow_add, hu]
        have hwH : w ^ nH = u * u := by rw [HQ, Int.pow_add, hu]
        -- the square's power is the quotient's
        have haH : a ^ nH % Pp = u * u % Pp := by
          have e1 : w % Pp = a * (y * y * y * y * (y * y * y * y)) % Pp := by
            rw [← hw, ← fm1, hx0, ← ha, fm1]; congr 1; grind
          have e2 : (y * y * y * y * (y * y * y * y)) ^ nH % Pp = 1 := by
            have hfy := fer hyn'
            rw [PH, Int.pow_add, ← Int.mul_pow] at hfy
            have : (y * y * y * y * (y * y * y * y)) ^ nH = (y * y) ^ nH * (y * y) ^ nH * ((y * y) ^ nH * (y * y) ^ nH) := by
              rw [← Int.mul_pow, ← Int.mul_pow]; congr 1; grind
            rw [this, Int.mul_emod, Int.mul_emod ((y * y) ^ nH), hfy]; rfl
          rw [← hwH, ← pmod w, e1, pmod, Int.mul_pow, ← fm2, e2, Int.mul_one]
        rw [hu] at hok
        obtain ⟨c, hcc⟩ : ∃ c, a ^ nH % Pp = c := ⟨_, rfl⟩
        have hsv : sqv a = (decide (c = 1) || decide (c = 0)) := by unfold sqv; rw [hcc]
        rw [hcc] at haH
        rw [hsv]
        clear hsv hcc hwH hf hsq eC hA hB eI eR
        have hu1 : (rootF X Y).2 = true ↔ u * u % Pp = 1 := by
          rw [hok]
          constructor
          · rintro (h | h)
            · have := cancel hxn (a := u) (b := 1) (by rw [h, Int.mul_one, hx0])
              rw [← fm1, ← fm2, this]; rfl
            · have := cancel hxn (a := u) (b := -1) (by rw [h]; congr 1; omega)
              rw [← fm1, ← fm2, this]; rfl
          · intro h
            rcases sq_one h with h | h
            · left; rw [← fm2, h, Int.mul_one, hx0]
            · right; rw [← fm2, h, fm2, show x * -1 = -x by omega]
        have hc0 : c ≠ 0 := fun h => by
          rw [← fm1, ← haH, h, Int.zero_mul] at hu4
          exact absurd hu4 (by decide)
        rw [← haH] at hu1
        rw [decide_eq_false hc0, Bool.or_false]
        by_cases h1 : c = 1
        · rw [decide_eq_true h1]; exact hu1.2 h1
        · rw [decide_eq_false h1]
          cases hc : (rootF X Y).2
          · rfl
          · exact absurd (hu1.1 hc) h1
  unfold rootF at *
  by_cases h1 : bytesF (rtC X Y) = bytesF X
  · rw [if_pos h1] at key ⊢
    refine ⟨_, eR, fun _ => ?_, fun h => by simp at h, key⟩
    rw [Int.mul_assoc, fm1, Int.mul_left_comm, fm1, Int.mul_left_comm, ← Int.mul_assoc, hsq]
    exact hA.1 h1
  · rw [if_neg h1] at key ⊢
    by_cases h2 : bytesF (rtC X Y) = bytesF (subF [0, 0, 0, 0, 0] X)
    · rw [if_pos h2] at key ⊢
      refine ⟨_, eI, fun _ => ?_, fun h => by simp at h, key⟩
      have e : vr x y * pw 2 (lessN 1 2) % Pp * (vr x y * pw 2 (lessN 1 2) % Pp) * y % Pp = (vr x y * vr x y * y % Pp) * (pw 2 (lessN 1 2) * pw 2 (lessN 1 2) % Pp) % Pp := by
        rw [fm1, fm2, Int.mul_assoc, fm1, Int.mul_left_comm, fm1]
        congr 1; grind
      rw [e, hsq, hB.1 h2, i_sq, fm1, fm2, show -x * -1 = x by omega, hx0]
    · rw [if_neg h2] at key ⊢
      exact ⟨0, small_el (by decide) (by decide), fun h => by simp at h, fun _ => rfl, key⟩
end Am
