/-
Working texts: contracts of functions, and the numbers behind them.
-/
import Derived.Test.YtbmdhkfdigeebaaBase
import Derived.Test.YtbmdhkfdigeebaaIrB
set_option linter.unusedSimpArgs false
set_option linter.unusedVariables false
set_option linter.unusedSectionVars false
set_option linter.unusedSimpArgs false
set_option linter.unusedVariables false
set_option maxRecDepth 20000
namespace Am
open Go.Proofs
/-! ### The reference's products -/
def byS (a b : Int) (n : Nat) (x : Int) : Int :=
  let x2 := if 255 < Go.IntKind.i64.wrap (x * 2) then bXor .i64 (Go.IntKind.i64.wrap (x * 2)) 283 else Go.IntKind.i64.wrap (x * 2)
  if bAnd .i64 (iShr .i64 b n) 1 = 1 then bXor .i64 x2 a else x2
def byG (a b : Int) : Nat → Int → Int
  | 0, x => x
  | n + 1, x => byG a b n (byS a b n x)
def preI2 (ds : List D) : Prop := ∃ x y, ds = [.v (.int .i64 x), .v (.int .i64 y)]
def F23 : List D → Out
  | [.v (.int _ x), .v (.int _ y)] => .one (.v (.int .i64 (byG x y 8 0)))
  | _ => bad
def s23 : Summ := sData [.v, .v] preI2 F23
set_option maxHeartbeats 2000000 in
theorem ok23 {g : List Blk} [Ge gl g] : SumOK Try.prog g 23 s23 ∧ SumAbs s23 := by
  refine fsumA (l := []) mixed gl_plain rfl Try.func23 comp23 compR23 nt23 (by simp) fun ds ⟨a, b, hd⟩ hA => ?_
  subst hd
  simp only [ir23,rs23,gl,F23,qda,qc6,qaj,List.length_cons,List.length_nil,Nat.reduceAdd,Nat.le_refl,Nat.reduceLeDiff,Nat.reduceLT,true_and,and_true,↓qax,↓qay,↓qa0,↓qaz,↓qcs,↓qbj,↓qa1,↓qcl,↓qb3,↓qci,↓qcb,↓qce,↓qcf,↓qb4,↓qcd,↓qcj,↓qb5,↓qcg,↓qch,↓qb6,↓qcc,↓qca,↓qb9,↓qb8,↓qb7,↓qa5,↓qbc,↓qa6,↓qbd,↓qa7,↓qbe,↓qa8,↓qbf,↓qa9,↓qbg,↓qba,↓qbh,↓qbb,↓qbi,↓qb2,↓qck,↓qfc,↓qco,↓qcp,↓qcq,↓qcn,↓qcm,↓qbm,↓qbn,↓qb0,↓qbv,↓qbq,↓qbu,↓qbz,↓qbw,↓qby,↓qbx,↓qbr,↓qbp,↓qb1,↓qbs,↓qbt,↓qbo,↓qez,↓qey,↓qe3,↓qe5,↓qe4,↓qex,↓qew,↓qet,↓qeu,↓qe2,↓qe1,↓qe0,qc5,↓qeq,↓qer,↓qev,↓qc4,↓qc2,↓qc3,↓qe7,↓qe8,↓qe9,↓qe6,qaa,↓qes,↓qef,↓qeg,↓qfb,↓qfa,↓qei,↓qdk,↓qds,↓qd9,↓qea,↓qen,↓qeo,↓qdo,↓qdp,↓qdr,↓qdq,↓qdx,↓qep,↓qdv,↓qej,↓qdn,↓qed,↓qek,↓qel,↓qem,↓qd1,↓qd0,↓qd2,↓qd3,↓qd5,↓qdz,↓qd6,↓qd8,↓qd7,↓qdl,↓qdm,↓qdy,↓qaw,↓qdw,↓qee,↓qec,↓qdj,↓qeh,↓qeb,↓qd4,qav,List.drop_zero,Nat.sub_zero,qcy,qct,qcu,qdh,qat,qas,qaf,List.map_cons,List.map_nil,List.zip_cons_cons,List.zip_nil_right,List.zip_nil_left,qau,evs,evp,mkB,repB,blen,qae,qad,qac,qab,qc1,qc0,qdg,qdi,qde,qdf,qcx,qcz,qcv,qcw,↓qdc,↓qdb,↓qdd,↓qah,↓qag,↓qai,↓retQ,res,resAll,resOne,kill,apartOk,exp,injV,injB,pur,purs,purR,pursR,List.set_cons_zero,List.set_cons_succ,List.length_cons,List.length_nil,List.cons_append,List.nil_append,List.append_nil,List.append_assoc,List.length_append,List.reduceReplicate,Nat.reduceAdd,Nat.reduceMul,Nat.reduceSub,Nat.reduceEqDiff,Nat.reduceLT,Nat.zero_add,Nat.add_zero,Nat.mul_one,Int.reduceToNat,Int.toNat_natCast,Int.cast_ofNat_Int,Int.reduceLE,Int.reduceLT,Int.reduceEq,reduceCtorEq,↓reduceIte,Bool.true_eq_false,Bool.false_eq_true,Bool.not_true,Bool.not_false,true_and,and_true,and_assoc,qaj,sub1,qc8,qc7,qc9,List.length_replicate,Nat.le_refl,false_implies,true_implies,ne_eq,not_true_eq_false,not_false_eq_true,decide_true,decide_false,decide_eq_true_eq,decide_eq_false_iff_not,Bool.not_eq_true',Bool.not_eq_false']
  refine awp_loopA (n := 26) hA [0, 1, 5, 6] (by decide +kernel) (fun s : Nat × Int => [.int .i64 a, .int .i64 b, .int .i64 s.2, .int .i64 ((s.1 : Int) - 1)])
    (fun _ => [.dead, .dead, .dead, .dead]) (fun s => s.1 ≤ 8 ∧ byG a b s.1 s.2 = byG a b 8 0) (fun s => s.1) (8, 0) ?_ ⟨by simp, rfl⟩ ?_
  · refine Hd.same ?_
    simp only [show (8 : Int) - 1 = 7 by decide,↓qax,↓qay,↓qa0,↓qaz,↓qcs,↓qbj,↓qa1,↓qcl,↓qb3,↓qci,↓qcb,↓qce,↓qcf,↓qb4,↓qcd,↓qcj,↓qb5,↓qcg,↓qch,↓qb6,↓qcc,↓qca,↓qb9,↓qb8,↓qb7,↓qa5,↓qbc,↓qa6,↓qbd,↓qa7,↓qbe,↓qa8,↓qbf,↓qa9,↓qbg,↓qba,↓qbh,↓qbb,↓qbi,↓qb2,↓qck,↓qfc,↓qco,↓qcp,↓qcq,↓qcn,↓qcm,↓qbm,↓qbn,↓qb0,↓qbv,↓qbq,↓qbu,↓qbz,↓qbw,↓qby,↓qbx,↓qbr,↓qbp,↓qb1,↓qbs,↓qbt,↓qbo,↓qez,↓qey,↓qe3,↓qe5,↓qe4,↓qex,↓qew,↓qet,↓qeu,↓qe2,↓qe1,↓qe0,qc5,↓qeq,↓qer,↓qev,↓qc4,↓qc2,↓qc3,↓qe7,↓qe8,↓qe9,↓qe6,qaa,↓qes,↓qef,↓qeg,↓qfb,↓qfa,↓qei,↓qdk,↓qds,↓qd9,↓qea,↓qen,↓qeo,↓qdo,↓qdp,↓qdr,↓qdq,↓qdx,↓qep,↓qdv,↓qej,↓qdn,↓qed,↓qek,↓qel,↓qem,↓qd1,↓qd0,↓qd2,↓qd3,↓qd5,↓qdz,↓qd6,↓qd8,↓qd7,↓qdl,↓qdm,↓qdy,↓qaw,↓qdw,↓qee,↓qec,↓qdj,↓qeh,↓qeb,↓qd4,qav,List.drop_zero,Nat.sub_zero,qcy,qct,qcu,qdh,qat,qas,qaf,List.map_cons,List.map_nil,List.zip_cons_cons,List.zip_nil_right,List.zip_nil_left,qau,evs,evp,mkB,repB,blen,qae,qad,qac,qab,qc1,qc0,qdg,qdi,qde,qdf,qcx,qcz,qcv,qcw,↓qdc,↓qdb,↓qdd,↓qah,↓qag,↓qai,↓retQ,res,resAll,resOne,kill,apartOk,exp,injV,injB,pur,purs,purR,pursR,List.set_cons_zero,List.set_cons_succ,List.length_cons,List.length_nil,List.cons_append,List.nil_append,List.append_nil,List.append_assoc,List.length_append,List.reduceReplicate,Nat.reduceAdd,Nat.reduceMul,Nat.reduceSub,Nat.reduceEqDiff,Nat.reduceLT,Nat.zero_add,Nat.add_zero,Nat.mul_one,Int.reduceToNat,Int.toNat_natCast,Int.cast_ofNat_Int,Int.reduceLE,Int.reduceLT,Int.reduceEq,reduceCtorEq,↓reduceIte,Bool.true_eq_false,Bool.false_eq_true,Bool.not_true,Bool.not_false,true_and,and_true,and_assoc,qaj,sub1,qc8,qc7,qc9,List.length_replicate,Nat.le_refl,false_implies,true_implies,ne_eq,not_true_eq_false,not_false_eq_true,decide_true,decide_false,decide_eq_true_eq,decide_eq_false_iff_not,Bool.not_eq_true',Bool.not_eq_false']
  rintro ⟨n, x⟩ ⟨hi, hm⟩ K hK
  simp only at hi hm hK
  cases n with
  | zero =>
    have c1 : ¬(0 : Int) ≤ 0 - 1 := by decide
    have hx : byG a b 8 0 = x := hm.symm
    simp only [c1,hx,qda,qc6,qaj,List.length_cons,List.length_nil,Nat.reduceAdd,Nat.le_refl,Nat.reduceLeDiff,Nat.reduceLT,true_and,and_true,↓qax,↓qay,↓qa0,↓qaz,↓qcs,↓qbj,↓qa1,↓qcl,↓qb3,↓qci,↓qcb,↓qce,↓qcf,↓qb4,↓qcd,↓qcj,↓qb5,↓qcg,↓qch,↓qb6,↓qcc,↓qca,↓qb9,↓qb8,↓qb7,↓qa5,↓qbc,↓qa6,↓qbd,↓qa7,↓qbe,↓qa8,↓qbf,↓qa9,↓qbg,↓qba,↓qbh,↓qbb,↓qbi,↓qb2,↓qck,↓qfc,↓qco,↓qcp,↓qcq,↓qcn,↓qcm,↓qbm,↓qbn,↓qb0,↓qbv,↓qbq,↓qbu,↓qbz,↓qbw,↓qby,↓qbx,↓qbr,↓qbp,↓qb1,↓qbs,↓qbt,↓qbo,↓qez,↓qey,↓qe3,↓qe5,↓qe4,↓qex,↓qew,↓qet,↓qeu,↓qe2,↓qe1,↓qe0,qc5,↓qeq,↓qer,↓qev,↓qc4,↓qc2,↓qc3,↓qe7,↓qe8,↓qe9,↓qe6,qaa,↓qes,↓qef,↓qeg,↓qfb,↓qfa,↓qei,↓qdk,↓qds,↓qd9,↓qea,↓qen,↓qeo,↓qdo,↓qdp,↓qdr,↓qdq,↓qdx,↓qep,↓qdv,↓qej,↓qdn,↓qed,↓qek,↓qel,↓qem,↓qd1,↓qd0,↓qd2,↓qd3,↓qd5,↓qdz,↓qd6,↓qd8,↓qd7,↓qdl,↓qdm,↓qdy,↓qaw,↓qdw,↓qee,↓qec,↓qdj,↓qeh,↓qeb,↓qd4,qav,List.drop_zero,Nat.sub_zero,qcy,qct,qcu,qdh,qat,qas,qaf,List.map_cons,List.map_nil,List.zip_cons_cons,List.zip_nil_right,List.zip_nil_left,qau,evs,evp,mkB,repB,blen,qae,qad,qac,qab,qc1,qc0,qdg,qdi,qde,qdf,qcx,qcz,qcv,qcw,↓qdc,↓qdb,↓qdd,↓qah,↓qag,↓qai,↓retQ,res,resAll,resOne,kill,apartOk,exp,injV,injB,pur,purs,purR,pursR,List.set_cons_zero,List.set_cons_succ,List.length_cons,List.length_nil,List.cons_append,List.nil_append,List.append_nil,List.append_assoc,List.length_append,List.reduceReplicate,Nat.reduceAdd,Nat.reduceMul,Nat.reduceSub,Nat.reduceEqDiff,Nat.reduceLT,Nat.zero_add,Nat.add_zero,Nat.mul_one,Int.reduceToNat,Int.toNat_natCast,Int.cast_ofNat_Int,Int.reduceLE,Int.reduceLT,Int.reduceEq,reduceCtorEq,↓reduceIte,Bool.true_eq_false,Bool.false_eq_true,Bool.not_true,Bool.not_false,true_and,and_true,and_assoc,qaj,sub1,qc8,qc7,qc9,List.length_replicate,Nat.le_refl,false_implies,true_implies,ne_eq,not_true_eq_false,not_false_eq_true,decide_true,decide_false,decide_eq_true_eq,decide_eq_false_iff_not,Bool.not_eq_true',Bool.not_eq_false']
    exact out_int rfl
  | succ m =>
    have e1 : ((m + 1 : Nat) : Int) - 1 = m := by omega
    have c1 : (0 : Int) ≤ (m : Int) := by omega
    have wi : Go.IntKind.i64.wrap ((m : Int) - 1) = (m : Int) - 1 := by rw [wrap_i64]; omega
    have hn : ((m : Int)).toNat = m := by omega
    obtain ⟨x1, hx1⟩ : ∃ x1, Go.IntKind.i64.wrap (x * 2) = x1 := ⟨_, rfl⟩
    have hs : ∀ v, byS a b m x = v → K (m, v) := fun v hv => hK _ ⟨by simp only; omega, by simp only; rw [← hm, byG, hv]⟩ (by simp only; omega)
    simp only [byS, hx1] at hs
    by_cases h1 : 255 < x1 <;> by_cases h2 : bAnd .i64 (iShr .i64 b (m : Int)) 1 = 1
    all_goals
      simp only [h1, h2, if_true, if_false] at hs
      simp only [e1,c1,wi,hx1,h1,h2,qda,qc6,qaj,List.length_cons,List.length_nil,Nat.reduceAdd,Nat.le_refl,Nat.reduceLeDiff,Nat.reduceLT,true_and,and_true,↓qax,↓qay,↓qa0,↓qaz,↓qcs,↓qbj,↓qa1,↓qcl,↓qb3,↓qci,↓qcb,↓qce,↓qcf,↓qb4,↓qcd,↓qcj,↓qb5,↓qcg,↓qch,↓qb6,↓qcc,↓qca,↓qb9,↓qb8,↓qb7,↓qa5,↓qbc,↓qa6,↓qbd,↓qa7,↓qbe,↓qa8,↓qbf,↓qa9,↓qbg,↓qba,↓qbh,↓qbb,↓qbi,↓qb2,↓qck,↓qfc,↓qco,↓qcp,↓qcq,↓qcn,↓qcm,↓qbm,↓qbn,↓qb0,↓qbv,↓qbq,↓qbu,↓qbz,↓qbw,↓qby,↓qbx,↓qbr,↓qbp,↓qb1,↓qbs,↓qbt,↓qbo,↓qez,↓qey,↓qe3,↓qe5,↓qe4,↓qex,↓qew,↓qet,↓qeu,↓qe2,↓qe1,↓qe0,qc5,↓qeq,↓qer,↓qev,↓qc4,↓qc2,↓qc3,↓qe7,↓qe8,↓qe9,↓qe6,qaa,↓qes,↓qef,↓qeg,↓qfb,↓qfa,↓qei,↓qdk,↓qds,↓qd9,↓qea,↓qen,↓qeo,↓qdo,↓qdp,↓qdr,↓qdq,↓qdx,↓qep,↓qdv,↓qej,↓qdn,↓qed,↓qek,↓qel,↓qem,↓qd1,↓qd0,↓qd2,↓qd3,↓qd5,↓qdz,↓qd6,↓qd8,↓qd7,↓qdl,↓qdm,↓qdy,↓qaw,↓qdw,↓qee,↓qec,↓qdj,↓qeh,↓qeb,↓qd4,qav,List.drop_zero,Nat.sub_zero,qcy,qct,qcu,qdh,qat,qas,qaf,List.map_cons,List.map_nil,List.zip_cons_cons,List.zip_nil_right,List.zip_nil_left,qau,evs,evp,mkB,repB,blen,qae,qad,qac,qab,qc1,qc0,qdg,qdi,qde,qdf,qcx,qcz,qcv,qcw,↓qdc,↓qdb,↓qdd,↓qah,↓qag,↓qai,↓retQ,res,resAll,resOne,kill,apartOk,exp,injV,injB,pur,purs,purR,pursR,List.set_cons_zero,List.set_cons_succ,List.length_cons,List.length_nil,List.cons_append,List.nil_append,List.append_nil,List.append_assoc,List.length_append,List.reduceReplicate,Nat.reduceAdd,Nat.reduceMul,Nat.reduceSub,Nat.reduceEqDiff,Nat.reduceLT,Nat.zero_add,Nat.add_zero,Nat.mul_one,Int.reduceToNat,Int.toNat_natCast,Int.cast_ofNat_Int,Int.reduceLE,Int.reduceLT,Int.reduceEq,reduceCtorEq,↓reduceIte,Bool.true_eq_false,Bool.false_eq_true,Bool.not_true,Bool.not_false,true_and,and_true,and_assoc,qaj,sub1,qc8,qc7,qc9,List.length_replicate,Nat.le_refl,false_implies,true_implies,ne_eq,not_true_eq_false,not_false_eq_true,decide_true,decide_false,decide_eq_true_eq,decide_eq_false_iff_not,Bool.not_eq_true',Bool.not_eq_false']
      repeat (refine And.intro (by omega) ?_)
      refine ⟨(m, _), hs _ rfl, Hd.same ?_⟩
      simp only [↓qax,↓qay,↓qa0,↓qaz,↓qcs,↓qbj,↓qa1,↓qcl,↓qb3,↓qci,↓qcb,↓qce,↓qcf,↓qb4,↓qcd,↓qcj,↓qb5,↓qcg,↓qch,↓qb6,↓qcc,↓qca,↓qb9,↓qb8,↓qb7,↓qa5,↓qbc,↓qa6,↓qbd,↓qa7,↓qbe,↓qa8,↓qbf,↓qa9,↓qbg,↓qba,↓qbh,↓qbb,↓qbi,↓qb2,↓qck,↓qfc,↓qco,↓qcp,↓qcq,↓qcn,↓qcm,↓qbm,↓qbn,↓qb0,↓qbv,↓qbq,↓qbu,↓qbz,↓qbw,↓qby,↓qbx,↓qbr,↓qbp,↓qb1,↓qbs,↓qbt,↓qbo,↓qez,↓qey,↓qe3,↓qe5,↓qe4,↓qex,↓qew,↓qet,↓qeu,↓qe2,↓qe1,↓qe0,qc5,↓qeq,↓qer,↓qev,↓qc4,↓qc2,↓qc3,↓qe7,↓qe8,↓qe9,↓qe6,qaa,↓qes,↓qef,↓qeg,↓qfb,↓qfa,↓qei,↓qdk,↓qds,↓qd9,↓qea,↓qen,↓qeo,↓qdo,↓qdp,↓qdr,↓qdq,↓qdx,↓qep,↓qdv,↓qej,↓qdn,↓qed,↓qek,↓qel,↓qem,↓qd1,↓qd0,↓qd2,↓qd3,↓qd5,↓qdz,↓qd6,↓qd8,↓qd7,↓qdl,↓qdm,↓qdy,↓qaw,↓qdw,↓qee,↓qec,↓qdj,↓qeh,↓qeb,↓qd4,qav,List.drop_zero,Nat.sub_zero,qcy,qct,qcu,qdh,qat,qas,qaf,List.map_cons,List.map_nil,List.zip_cons_cons,List.zip_nil_right,List.zip_nil_left,qau,evs,evp,mkB,repB,blen,qae,qad,qac,qab,qc1,qc0,qdg,qdi,qde,qdf,qcx,qcz,qcv,qcw,↓qdc,↓qdb,↓qdd,↓qah,↓qag,↓qai,↓retQ,res,resAll,resOne,kill,apartOk,exp,injV,injB,pur,purs,purR,pursR,List.set_cons_zero,List.set_cons_succ,List.length_cons,List.length_nil,List.cons_append,List.nil_append,List.append_nil,List.append_assoc,List.length_append,List.reduceReplicate,Nat.reduceAdd,Nat.reduceMul,Nat.reduceSub,Nat.reduceEqDiff,Nat.reduceLT,Nat.zero_add,Nat.add_zero,Nat.mul_one,Int.reduceToNat,Int.toNat_natCast,Int.cast_ofNat_Int,Int.reduceLE,Int.reduceLT,Int.reduceEq,reduceCtorEq,↓reduceIte,Bool.true_eq_false,Bool.false_eq_true,Bool.not_true,Bool.not_false,true_and,and_true,and_assoc,qaj,sub1,qc8,qc7,qc9,List.length_replicate,Nat.le_refl,false_implies,true_implies,ne_eq,not_true_eq_false,not_false_eq_true,decide_true,decide_false,decide_eq_true_eq,decide_eq_false_iff_not,Bool.not_eq_true',Bool.not_eq_false']
end Am
