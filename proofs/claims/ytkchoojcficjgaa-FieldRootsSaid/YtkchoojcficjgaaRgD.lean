/-
Working texts: contracts of functions, and the numbers behind them.
-/
import Derived.Test.YtkchoojcficjgaaRgC
import Derived.Test.YtkchoojcficjgaaFiF
set_option linter.unusedSimpArgs false
set_option linter.unusedVariables false
set_option linter.unusedSectionVars false
set_option linter.unusedSimpArgs false
set_option linter.unusedVariables false
set_option maxRecDepth 20000
namespace Am
open Go.Proofs
theorem prod_bound {x y : Int} (h0 : 0 ≤ x) (h1 : x < 65536) (h2 : 0 ≤ y) (h3 : y < 65536) : 0 ≤ x * y ∧ x * y ≤ 4294836225 := by
  refine ⟨Int.mul_nonneg h0 h2, ?_⟩
  have e1 := Int.mul_le_mul_of_nonneg_left (show y ≤ 65535 by omega) h0
  omega
def pre81 (ds : List D) : Prop := ∃ a b, ds = [.s .u32 a, .s .u32 b] ∧ Dig 65536 a ∧ Dig 65536 b ∧ a.length ≤ 65536 ∧ b.length ≤ 65536
def F81 : List D → Out
  | [.s _ a, .s _ b] => .one (.s .u32 (dig 65536 (a.length + b.length) (val 65536 a * val 65536 b)))
  | _ => bad
def s81 : Summ := sData [.s .u32, .s .u32] pre81 F81
theorem ok81 : SumOK Try.prog gl 81 s81 ∧ SumAbs s81 := by
  refine fsum (l := []) mixed gl_plain rfl Try.func81 comp81 compR81 nt81 (by simp) fun ds ⟨a, b, hd, ha, hb, hal, hbl⟩ hA => ?_
  subst hd
  simp only [ir81,rs81,gl,F81,↓qax,↓qay,↓qa0,↓qaz,↓qcs,↓qbj,↓qa1,↓qcl,↓qb3,↓qci,↓qcb,↓qce,↓qcf,↓qb4,↓qcd,↓qcj,↓qb5,↓qcg,↓qch,↓qb6,↓qcc,↓qca,↓qb9,↓qb8,↓qb7,↓qa5,↓qbc,↓qa6,↓qbd,↓qa7,↓qbe,↓qa8,↓qbf,↓qa9,↓qbg,↓qba,↓qbh,↓qbb,↓qbi,↓qb2,↓qck,↓qcr,↓qco,↓qcp,↓qcq,↓qcn,↓qcm,↓qbm,↓qbn,↓qb0,↓qbv,↓qbq,↓qbu,↓qbz,↓qbw,↓qby,↓qbx,↓qbr,↓qbp,↓qb1,↓qbs,↓qbt,↓qbo,↓qa2,↓qa3,↓qa4,↓qbk,↓qbl,↓qex,↓qew,↓qet,↓qeu,↓qe2,↓qe1,↓qe0,qc5,↓qeq,↓qer,↓qev,↓qc4,↓qc2,↓qc3,↓qe7,↓qe8,↓qe9,↓qe6,qaa,↓qes,↓qef,↓qeg,↓qfb,↓qfa,↓qei,↓qdk,↓qds,↓qdu,↓qdt,↓qd9,↓qea,↓qen,↓qeo,↓qdo,↓qdp,↓qdr,↓qdq,↓qdx,↓qep,↓qdv,↓qej,↓qdn,↓qed,↓qek,↓qel,↓qem,↓qd1,↓qd0,↓qd2,↓qd3,↓qd5,↓qdz,↓qd6,↓qd8,↓qd7,↓qdl,↓qdm,↓qdy,↓qaw,↓qdw,↓qee,↓qec,↓qdj,↓qeh,↓qeb,↓qd4,qav,qau,evs,evp,mkB,repB,fill,blen,qae,qad,qac,qab,qc1,qc0,qdg,qdi,qde,qdf,qcx,qcz,qcv,qcw,↓qdc,↓qdb,↓qdd,↓qah,↓qag,↓qai,↓retQ,res,resAll,resOne,kill,apartOk,exp,injV,injB,pur,purs,purR,pursR,List.set_cons_zero,List.set_cons_succ,List.length_cons,List.length_nil,List.cons_append,List.nil_append,List.append_nil,List.append_assoc,List.length_append,List.reduceReplicate,Nat.reduceAdd,Nat.reduceMul,Nat.reduceSub,Nat.reduceEqDiff,Nat.reduceLT,Nat.zero_add,Nat.add_zero,Nat.mul_one,Int.reduceToNat,Int.toNat_natCast,Int.cast_ofNat_Int,Int.reduceLE,Int.reduceLT,Int.reduceEq,reduceCtorEq,↓reduceIte,Bool.true_eq_false,Bool.false_eq_true,Bool.not_true,Bool.not_false,true_and,and_true,and_assoc,qaj,sub1,qc8,qc7,qc9,List.length_replicate,Nat.le_refl,forall_const,false_implies,true_implies,ne_eq,not_true_eq_false,not_false_eq_true,decide_true,decide_false,decide_eq_true_eq,decide_eq_false_iff_not,Bool.not_eq_true',Bool.not_eq_false',implies_true]
  have hab : Go.IntKind.i64.wrap ((a.length : Int) + b.length) = ((a.length + b.length : Nat) : Int) := by rw [w64 (by omega) (by omega)]; omega
  rw [hab]
  try simp only [↓qax,↓qay,↓qa0,↓qaz,↓qcs,↓qbj,↓qa1,↓qcl,↓qb3,↓qci,↓qcb,↓qce,↓qcf,↓qb4,↓qcd,↓qcj,↓qb5,↓qcg,↓qch,↓qb6,↓qcc,↓qca,↓qb9,↓qb8,↓qb7,↓qa5,↓qbc,↓qa6,↓qbd,↓qa7,↓qbe,↓qa8,↓qbf,↓qa9,↓qbg,↓qba,↓qbh,↓qbb,↓qbi,↓qb2,↓qck,↓qcr,↓qco,↓qcp,↓qcq,↓qcn,↓qcm,↓qbm,↓qbn,↓qb0,↓qbv,↓qbq,↓qbu,↓qbz,↓qbw,↓qby,↓qbx,↓qbr,↓qbp,↓qb1,↓qbs,↓qbt,↓qbo,↓qa2,↓qa3,↓qa4,↓qbk,↓qbl,↓qex,↓qew,↓qet,↓qeu,↓qe2,↓qe1,↓qe0,qc5,↓qeq,↓qer,↓qev,↓qc4,↓qc2,↓qc3,↓qe7,↓qe8,↓qe9,↓qe6,qaa,↓qes,↓qef,↓qeg,↓qfb,↓qfa,↓qei,↓qdk,↓qds,↓qdu,↓qdt,↓qd9,↓qea,↓qen,↓qeo,↓qdo,↓qdp,↓qdr,↓qdq,↓qdx,↓qep,↓qdv,↓qej,↓qdn,↓qed,↓qek,↓qel,↓qem,↓qd1,↓qd0,↓qd2,↓qd3,↓qd5,↓qdz,↓qd6,↓qd8,↓qd7,↓qdl,↓qdm,↓qdy,↓qaw,↓qdw,↓qee,↓qec,↓qdj,↓qeh,↓qeb,↓qd4,qav,qau,evs,evp,mkB,repB,fill,blen,qae,qad,qac,qab,qc1,qc0,qdg,qdi,qde,qdf,qcx,qcz,qcv,qcw,↓qdc,↓qdb,↓qdd,↓qah,↓qag,↓qai,↓retQ,res,resAll,resOne,kill,apartOk,exp,injV,injB,pur,purs,purR,pursR,List.set_cons_zero,List.set_cons_succ,List.length_cons,List.length_nil,List.cons_append,List.nil_append,List.append_nil,List.append_assoc,List.length_append,List.reduceReplicate,Nat.reduceAdd,Nat.reduceMul,Nat.reduceSub,Nat.reduceEqDiff,Nat.reduceLT,Nat.zero_add,Nat.add_zero,Nat.mul_one,Int.reduceToNat,Int.toNat_natCast,Int.cast_ofNat_Int,Int.reduceLE,Int.reduceLT,Int.reduceEq,reduceCtorEq,↓reduceIte,Bool.true_eq_false,Bool.false_eq_true,Bool.not_true,Bool.not_false,true_and,and_true,and_assoc,qaj,sub1,qc8,qc7,qc9,List.length_replicate,Nat.le_refl,forall_const,false_implies,true_implies,ne_eq,not_true_eq_false,not_false_eq_true,decide_true,decide_false,decide_eq_true_eq,decide_eq_false_iff_not,Bool.not_eq_true',Bool.not_eq_false',implies_true]
  obtain ⟨n, hn⟩ : ∃ n, n = a.length + b.length := ⟨_, rfl⟩
  rw [← hn]
  repeat (refine And.intro (by first | omega | rfl) ?_)
  refine awp_loopK hA (fun x : Nat × List Int => ⟨[.slice 4 0 1 a.length a.length, .slice 5 0 1 b.length b.length, .undef, .undef, .undef, .slice 6 0 1 n n, .int .i64 x.1] ++ List.replicate 69 .undef, [.dead, .dead, .dead, .dead, .ints true .u32 a, .ints true .u32 b, .ints false .u64 x.2]⟩)
    (fun x => x.1 ≤ a.length ∧ x.2.length = n ∧ (∀ t,0 ≤ getI x.2 t ∧ getI x.2 t ≤ 4294836225 * x.1) ∧ val 65536 x.2 = val 65536 (a.take x.1) * val 65536 b) (fun x => a.length - x.1) (0,List.replicate n 0) (by simp only [↓qax,↓qay,↓qa0,↓qaz,↓qcs,↓qbj,↓qa1,↓qcl,↓qb3,↓qci,↓qcb,↓qce,↓qcf,↓qb4,↓qcd,↓qcj,↓qb5,↓qcg,↓qch,↓qb6,↓qcc,↓qca,↓qb9,↓qb8,↓qb7,↓qa5,↓qbc,↓qa6,↓qbd,↓qa7,↓qbe,↓qa8,↓qbf,↓qa9,↓qbg,↓qba,↓qbh,↓qbb,↓qbi,↓qb2,↓qck,↓qcr,↓qco,↓qcp,↓qcq,↓qcn,↓qcm,↓qbm,↓qbn,↓qb0,↓qbv,↓qbq,↓qbu,↓qbz,↓qbw,↓qby,↓qbx,↓qbr,↓qbp,↓qb1,↓qbs,↓qbt,↓qbo,↓qa2,↓qa3,↓qa4,↓qbk,↓qbl,↓qex,↓qew,↓qet,↓qeu,↓qe2,↓qe1,↓qe0,qc5,↓qeq,↓qer,↓qev,↓qc4,↓qc2,↓qc3,↓qe7,↓qe8,↓qe9,↓qe6,qaa,↓qes,↓qef,↓qeg,↓qfb,↓qfa,↓qei,↓qdk,↓qds,↓qdu,↓qdt,↓qd9,↓qea,↓qen,↓qeo,↓qdo,↓qdp,↓qdr,↓qdq,↓qdx,↓qep,↓qdv,↓qej,↓qdn,↓qed,↓qek,↓qel,↓qem,↓qd1,↓qd0,↓qd2,↓qd3,↓qd5,↓qdz,↓qd6,↓qd8,↓qd7,↓qdl,↓qdm,↓qdy,↓qaw,↓qdw,↓qee,↓qec,↓qdj,↓qeh,↓qeb,↓qd4,qav,qau,evs,evp,mkB,repB,fill,blen,qae,qad,qac,qab,qc1,qc0,qdg,qdi,qde,qdf,qcx,qcz,qcv,qcw,↓qdc,↓qdb,↓qdd,↓qah,↓qag,↓qai,↓retQ,res,resAll,resOne,kill,apartOk,exp,injV,injB,pur,purs,purR,pursR,List.set_cons_zero,List.set_cons_succ,List.length_cons,List.length_nil,List.cons_append,List.nil_append,List.append_nil,List.append_assoc,List.length_append,List.reduceReplicate,Nat.reduceAdd,Nat.reduceMul,Nat.reduceSub,Nat.reduceEqDiff,Nat.reduceLT,Nat.zero_add,Nat.add_zero,Nat.mul_one,Int.reduceToNat,Int.toNat_natCast,Int.cast_ofNat_Int,Int.reduceLE,Int.reduceLT,Int.reduceEq,reduceCtorEq,↓reduceIte,Bool.true_eq_false,Bool.false_eq_true,Bool.not_true,Bool.not_false,true_and,and_true,and_assoc,qaj,sub1,qc8,qc7,qc9,List.length_replicate,Nat.le_refl,forall_const,false_implies,true_implies,ne_eq,not_true_eq_false,not_false_eq_true,decide_true,decide_false,decide_eq_true_eq,decide_eq_false_iff_not,Bool.not_eq_true',Bool.not_eq_false',implies_true]; try rfl)
    ⟨by simp, by simp, fun t => by simp [getI_replicate0], by simp [val, val_replicate]⟩ ?_
  rintro ⟨i, o⟩ ⟨h1, h2, h3, h4⟩ K hK
  simp only [] at h1 h2 h3 h4
  simp only [↓qax,↓qay,↓qa0,↓qaz,↓qcs,↓qbj,↓qa1,↓qcl,↓qb3,↓qci,↓qcb,↓qce,↓qcf,↓qb4,↓qcd,↓qcj,↓qb5,↓qcg,↓qch,↓qb6,↓qcc,↓qca,↓qb9,↓qb8,↓qb7,↓qa5,↓qbc,↓qa6,↓qbd,↓qa7,↓qbe,↓qa8,↓qbf,↓qa9,↓qbg,↓qba,↓qbh,↓qbb,↓qbi,↓qb2,↓qck,↓qcr,↓qco,↓qcp,↓qcq,↓qcn,↓qcm,↓qbm,↓qbn,↓qb0,↓qbv,↓qbq,↓qbu,↓qbz,↓qbw,↓qby,↓qbx,↓qbr,↓qbp,↓qb1,↓qbs,↓qbt,↓qbo,↓qa2,↓qa3,↓qa4,↓qbk,↓qbl,↓qex,↓qew,↓qet,↓qeu,↓qe2,↓qe1,↓qe0,qc5,↓qeq,↓qer,↓qev,↓qc4,↓qc2,↓qc3,↓qe7,↓qe8,↓qe9,↓qe6,qaa,↓qes,↓qef,↓qeg,↓qfb,↓qfa,↓qei,↓qdk,↓qds,↓qdu,↓qdt,↓qd9,↓qea,↓qen,↓qeo,↓qdo,↓qdp,↓qdr,↓qdq,↓qdx,↓qep,↓qdv,↓qej,↓qdn,↓qed,↓qek,↓qel,↓qem,↓qd1,↓qd0,↓qd2,↓qd3,↓qd5,↓qdz,↓qd6,↓qd8,↓qd7,↓qdl,↓qdm,↓qdy,↓qaw,↓qdw,↓qee,↓qec,↓qdj,↓qeh,↓qeb,↓qd4,qav,qau,evs,evp,mkB,repB,fill,blen,qae,qad,qac,qab,qc1,qc0,qdg,qdi,qde,qdf,qcx,qcz,qcv,qcw,↓qdc,↓qdb,↓qdd,↓qah,↓qag,↓qai,↓retQ,res,resAll,resOne,kill,apartOk,exp,injV,injB,pur,purs,purR,pursR,List.set_cons_zero,List.set_cons_succ,List.length_cons,List.length_nil,List.cons_append,List.nil_append,List.append_nil,List.append_assoc,List.length_append,List.reduceReplicate,Nat.reduceAdd,Nat.reduceMul,Nat.reduceSub,Nat.reduceEqDiff,Nat.reduceLT,Nat.zero_add,Nat.add_zero,Nat.mul_one,Int.reduceToNat,Int.toNat_natCast,Int.cast_ofNat_Int,Int.reduceLE,Int.reduceLT,Int.reduceEq,reduceCtorEq,↓reduceIte,Bool.true_eq_false,Bool.false_eq_true,Bool.not_true,Bool.not_false,true_and,and_true,and_assoc,qaj,sub1,qc8,qc7,qc9,List.length_replicate,Nat.le_refl,forall_const,false_implies,true_implies,ne_eq,not_true_eq_false,not_false_eq_true,decide_true,decide_false,decide_eq_true_eq,decide_eq_false_iff_not,Bool.not_eq_true',Bool.not_eq_false',implies_true]
  refine ⟨fun hi => ?_, fun hi => ?_⟩
  · have hi : i < a.length := by omega
    have hai := ha.get hi
    refine awp_loopK hA (fun x : Nat × List Int => ⟨[.slice 4 0 1 a.length a.length, .slice 5 0 1 b.length b.length, .undef, .undef, .undef, .slice 6 0 1 n n, .int .i64 i, .int .i64 x.1] ++ List.replicate 68 .undef, [.dead, .dead, .dead, .dead, .ints true .u32 a, .ints true .u32 b, .ints false .u64 x.2]⟩)
      (fun x => x.1 ≤ b.length ∧ x.2.length = n ∧ (∀ t,0 ≤ getI x.2 t ∧ getI x.2 t ≤ 4294836225 * (i + 1)) ∧ (∀ t,i + x.1 ≤ t → getI x.2 t ≤ 4294836225 * i) ∧ val 65536 x.2 = val 65536 (a.take i) * val 65536 b + 65536 ^ i * (getI a i * val 65536 (b.take x.1))) (fun x => b.length - x.1) (0,o) (by simp only [↓qax,↓qay,↓qa0,↓qaz,↓qcs,↓qbj,↓qa1,↓qcl,↓qb3,↓qci,↓qcb,↓qce,↓qcf,↓qb4,↓qcd,↓qcj,↓qb5,↓qcg,↓qch,↓qb6,↓qcc,↓qca,↓qb9,↓qb8,↓qb7,↓qa5,↓qbc,↓qa6,↓qbd,↓qa7,↓qbe,↓qa8,↓qbf,↓qa9,↓qbg,↓qba,↓qbh,↓qbb,↓qbi,↓qb2,↓qck,↓qcr,↓qco,↓qcp,↓qcq,↓qcn,↓qcm,↓qbm,↓qbn,↓qb0,↓qbv,↓qbq,↓qbu,↓qbz,↓qbw,↓qby,↓qbx,↓qbr,↓qbp,↓qb1,↓qbs,↓qbt,↓qbo,↓qa2,↓qa3,↓qa4,↓qbk,↓qbl,↓qex,↓qew,↓qet,↓qeu,↓qe2,↓qe1,↓qe0,qc5,↓qeq,↓qer,↓qev,↓qc4,↓qc2,↓qc3,↓qe7,↓qe8,↓qe9,↓qe6,qaa,↓qes,↓qef,↓qeg,↓qfb,↓qfa,↓qei,↓qdk,↓qds,↓qdu,↓qdt,↓qd9,↓qea,↓qen,↓qeo,↓qdo,↓qdp,↓qdr,↓qdq,↓qdx,↓qep,↓qdv,↓qej,↓qdn,↓qed,↓qek,↓qel,↓qem,↓qd1,↓qd0,↓qd2,↓qd3,↓qd5,↓qdz,↓qd6,↓qd8,↓qd7,↓qdl,↓qdm,↓qdy,↓qaw,↓qdw,↓qee,↓qec,↓qdj,↓qeh,↓qeb,↓qd4,qav,qau,evs,evp,mkB,repB,fill,blen,qae,qad,qac,qab,qc1,qc0,qdg,qdi,qde,qdf,qcx,qcz,qcv,qcw,↓qdc,↓qdb,↓qdd,↓qah,↓qag,↓qai,↓retQ,res,resAll,resOne,kill,apartOk,exp,injV,injB,pur,purs,purR,pursR,List.set_cons_zero,List.set_cons_succ,List.length_cons,List.length_nil,List.cons_append,List.nil_append,List.append_nil,List.append_assoc,List.length_append,List.reduceReplicate,Nat.reduceAdd,Nat.reduceMul,Nat.reduceSub,Nat.reduceEqDiff,Nat.reduceLT,Nat.zero_add,Nat.add_zero,Nat.mul_one,Int.reduceToNat,Int.toNat_natCast,Int.cast_ofNat_Int,Int.reduceLE,Int.reduceLT,Int.reduceEq,reduceCtorEq,↓reduceIte,Bool.true_eq_false,Bool.false_eq_true,Bool.not_true,Bool.not_false,true_and,and_true,and_assoc,qaj,sub1,qc8,qc7,qc9,List.length_replicate,Nat.le_refl,forall_const,false_implies,true_implies,ne_eq,not_true_eq_false,not_false_eq_true,decide_true,decide_false,decide_eq_true_eq,decide_eq_false_iff_not,Bool.not_eq_true',Bool.not_eq_false',implies_true]; try rfl)
      ⟨by simp, h2, fun t => by have := h3 t; simp only []; omega, fun t _ => (h3 t).2, by simp [val, h4]⟩ ?_
    rintro ⟨k, o'⟩ ⟨g1, g2, g3, g4, g5⟩ K' hK'
    simp only [] at g1 g2 g3 g4 g5
    simp only [apartOk,↓qax,↓qay,↓qa0,↓qaz,↓qcs,↓qbj,↓qa1,↓qcl,↓qb3,↓qci,↓qcb,↓qce,↓qcf,↓qb4,↓qcd,↓qcj,↓qb5,↓qcg,↓qch,↓qb6,↓qcc,↓qca,↓qb9,↓qb8,↓qb7,↓qa5,↓qbc,↓qa6,↓qbd,↓qa7,↓qbe,↓qa8,↓qbf,↓qa9,↓qbg,↓qba,↓qbh,↓qbb,↓qbi,↓qb2,↓qck,↓qcr,↓qco,↓qcp,↓qcq,↓qcn,↓qcm,↓qbm,↓qbn,↓qb0,↓qbv,↓qbq,↓qbu,↓qbz,↓qbw,↓qby,↓qbx,↓qbr,↓qbp,↓qb1,↓qbs,↓qbt,↓qbo,↓qa2,↓qa3,↓qa4,↓qbk,↓qbl,↓qex,↓qew,↓qet,↓qeu,↓qe2,↓qe1,↓qe0,qc5,↓qeq,↓qer,↓qev,↓qc4,↓qc2,↓qc3,↓qe7,↓qe8,↓qe9,↓qe6,qaa,↓qes,↓qef,↓qeg,↓qfb,↓qfa,↓qei,↓qdk,↓qds,↓qdu,↓qdt,↓qd9,↓qea,↓qen,↓qeo,↓qdo,↓qdp,↓qdr,↓qdq,↓qdx,↓qep,↓qdv,↓qej,↓qdn,↓qed,↓qek,↓qel,↓qem,↓qd1,↓qd0,↓qd2,↓qd3,↓qd5,↓qdz,↓qd6,↓qd8,↓qd7,↓qdl,↓qdm,↓qdy,↓qaw,↓qdw,↓qee,↓qec,↓qdj,↓qeh,↓qeb,↓qd4,qav,qau,evs,evp,mkB,repB,fill,blen,qae,qad,qac,qab,qc1,qc0,qdg,qdi,qde,qdf,qcx,qcz,qcv,qcw,↓qdc,↓qdb,↓qdd,↓qah,↓qag,↓qai,↓retQ,res,resAll,resOne,kill,apartOk,exp,injV,injB,pur,purs,purR,pursR,List.set_cons_zero,List.set_cons_succ,List.length_cons,List.length_nil,List.cons_append,List.nil_append,List.append_nil,List.append_assoc,List.length_append,List.reduceReplicate,Nat.reduceAdd,Nat.reduceMul,Nat.reduceSub,Nat.reduceEqDiff,Nat.reduceLT,Nat.zero_add,Nat.add_zero,Nat.mul_one,Int.reduceToNat,Int.toNat_natCast,Int.cast_ofNat_Int,Int.reduceLE,Int.reduceLT,Int.reduceEq,reduceCtorEq,↓reduceIte,Bool.true_eq_false,Bool.false_eq_true,Bool.not_true,Bool.not_false,true_and,and_true,and_assoc,qaj,sub1,qc8,qc7,qc9,List.length_replicate,Nat.le_refl,forall_const,false_implies,true_implies,ne_eq,not_true_eq_false,not_false_eq_true,decide_true,decide_false,decide_eq_true_eq,decide_eq_false_iff_not,Bool.not_eq_true',Bool.not_eq_false',implies_true]
    refine ⟨fun hk => ?_, fun hk => ?_⟩
    · have hk : k < b.length := by omega
      have hbk := hb.get hk
      have hp := prod_bound hai.1 hai.2 hbk.1 hbk.2
      have hik : Go.IntKind.i64.wrap ((i : Int) + k) = ((i + k : Nat) : Int) := by rw [w64 (by omega) (by omega)]; omega
      have ho := g3 (i + k)
      have ho' := g4 (i + k) (Nat.le_refl _)
      rw [hik, w64_inc (by omega), wu64 (n := getI a i) (by omega) (by omega), wu64 (n := getI b k) (by omega) (by omega), wu64 (n := _ * _) (by omega) (by omega)]
      simp only [↓qax,↓qay,↓qa0,↓qaz,↓qcs,↓qbj,↓qa1,↓qcl,↓qb3,↓qci,↓qcb,↓qce,↓qcf,↓qb4,↓qcd,↓qcj,↓qb5,↓qcg,↓qch,↓qb6,↓qcc,↓qca,↓qb9,↓qb8,↓qb7,↓qa5,↓qbc,↓qa6,↓qbd,↓qa7,↓qbe,↓qa8,↓qbf,↓qa9,↓qbg,↓qba,↓qbh,↓qbb,↓qbi,↓qb2,↓qck,↓qcr,↓qco,↓qcp,↓qcq,↓qcn,↓qcm,↓qbm,↓qbn,↓qb0,↓qbv,↓qbq,↓qbu,↓qbz,↓qbw,↓qby,↓qbx,↓qbr,↓qbp,↓qb1,↓qbs,↓qbt,↓qbo,↓qa2,↓qa3,↓qa4,↓qbk,↓qbl,↓qex,↓qew,↓qet,↓qeu,↓qe2,↓qe1,↓qe0,qc5,↓qeq,↓qer,↓qev,↓qc4,↓qc2,↓qc3,↓qe7,↓qe8,↓qe9,↓qe6,qaa,↓qes,↓qef,↓qeg,↓qfb,↓qfa,↓qei,↓qdk,↓qds,↓qdu,↓qdt,↓qd9,↓qea,↓qen,↓qeo,↓qdo,↓qdp,↓qdr,↓qdq,↓qdx,↓qep,↓qdv,↓qej,↓qdn,↓qed,↓qek,↓qel,↓qem,↓qd1,↓qd0,↓qd2,↓qd3,↓qd5,↓qdz,↓qd6,↓qd8,↓qd7,↓qdl,↓qdm,↓qdy,↓qaw,↓qdw,↓qee,↓qec,↓qdj,↓qeh,↓qeb,↓qd4,qav,qau,evs,evp,mkB,repB,fill,blen,qae,qad,qac,qab,qc1,qc0,qdg,qdi,qde,qdf,qcx,qcz,qcv,qcw,↓qdc,↓qdb,↓qdd,↓qah,↓qag,↓qai,↓retQ,res,resAll,resOne,kill,apartOk,exp,injV,injB,pur,purs,purR,pursR,List.set_cons_zero,List.set_cons_succ,List.length_cons,List.length_nil,List.cons_append,List.nil_append,List.append_nil,List.append_assoc,List.length_append,List.reduceReplicate,Nat.reduceAdd,Nat.reduceMul,Nat.reduceSub,Nat.reduceEqDiff,Nat.reduceLT,Nat.zero_add,Nat.add_zero,Nat.mul_one,Int.reduceToNat,Int.toNat_natCast,Int.cast_ofNat_Int,Int.reduceLE,Int.reduceLT,Int.reduceEq,reduceCtorEq,↓reduceIte,Bool.true_eq_false,Bool.false_eq_true,Bool.not_true,Bool.not_false,true_and,and_true,and_assoc,qaj,sub1,qc8,qc7,qc9,List.length_replicate,Nat.le_refl,forall_const,false_implies,true_implies,ne_eq,not_true_eq_false,not_false_eq_true,decide_true,decide_false,decide_eq_true_eq,decide_eq_false_iff_not,Bool.not_eq_true',Bool.not_eq_false',implies_true]
      rw [wu64 (by omega) (by omega)]
      repeat (refine And.intro (by first | omega | rfl) ?_)
      refine ⟨(k + 1, o'.set (i + k) (getI o' (i + k) + getI a i * getI b k)), hK' _ ⟨by simp only []; omega, by simpa using g2, fun t => ?_, fun t ht => ?_, ?_⟩ (by simp only []; omega), rfl⟩
      · simp only [getI_set _ _ _ _ (show i + k < o'.length by omega)]
        have := g3 t
        split <;> omega
      · simp only [] at ht
        simp only [getI_set _ _ _ _ (show i + k < o'.length by omega)]
        rw [if_neg (by omega)]
        exact g4 t (by omega)
      · simp only []
        rw [val_set _ _ _ _ (by omega), g5, val_take_succ', Int.mul_add (getI a i), Int.mul_add (65536 ^ i), Int.pow_add]
        have e1 : getI o' (i + k) + getI a i * getI b k - getI o' (i + k) = getI a i * getI b k := by omega
        rw [e1, Int.mul_assoc, Int.mul_left_comm (65536 ^ k), Int.add_assoc]
    · have hk : k = b.length := by omega
      subst hk
      rw [w64_inc (by omega)]
      refine ⟨(i + 1, o'), hK _ ⟨by simp only []; omega, g2, fun t => ?_, ?_⟩ (by simp only []; omega), rfl⟩
      · have := g3 t
        simp only []; omega
      · simp only []
        rw [g5, List.take_length, val_take_succ', Int.add_mul, Int.mul_assoc]
  · have hi : i = a.length := by omega
    subst hi
    rw [List.take_length] at h4
    repeat (refine And.intro (by first | omega | rfl) ?_)
    refine awp_loopK hA (fun x : Nat × Int × List Int => ⟨[.undef, .undef, .undef, .undef, .undef, .slice 6 0 1 n n, .undef, .undef, .slice 7 0 1 n n, .int .u64 x.2.1, .int .i64 x.1] ++ List.replicate 65 .undef, [.dead, .dead, .dead, .dead, .ints true .u32 a, .ints true .u32 b, .ints false .u64 o, .ints false .u32 x.2.2]⟩)
      (fun x => x.1 ≤ n ∧ 0 ≤ x.2.1 ∧ x.2.1 ≤ 562949953421312 ∧ x.2.2.length = n ∧ Dig 65536 x.2.2 ∧ val 65536 (x.2.2.take x.1) + x.2.1 * 65536 ^ x.1 = val 65536 (o.take x.1)) (fun x => n - x.1) (0,0,List.replicate n 0) (by simp only [↓qax,↓qay,↓qa0,↓qaz,↓qcs,↓qbj,↓qa1,↓qcl,↓qb3,↓qci,↓qcb,↓qce,↓qcf,↓qb4,↓qcd,↓qcj,↓qb5,↓qcg,↓qch,↓qb6,↓qcc,↓qca,↓qb9,↓qb8,↓qb7,↓qa5,↓qbc,↓qa6,↓qbd,↓qa7,↓qbe,↓qa8,↓qbf,↓qa9,↓qbg,↓qba,↓qbh,↓qbb,↓qbi,↓qb2,↓qck,↓qcr,↓qco,↓qcp,↓qcq,↓qcn,↓qcm,↓qbm,↓qbn,↓qb0,↓qbv,↓qbq,↓qbu,↓qbz,↓qbw,↓qby,↓qbx,↓qbr,↓qbp,↓qb1,↓qbs,↓qbt,↓qbo,↓qa2,↓qa3,↓qa4,↓qbk,↓qbl,↓qex,↓qew,↓qet,↓qeu,↓qe2,↓qe1,↓qe0,qc5,↓qeq,↓qer,↓qev,↓qc4,↓qc2,↓qc3,↓qe7,↓qe8,↓qe9,↓qe6,qaa,↓qes,↓qef,↓qeg,↓qfb,↓qfa,↓qei,↓qdk,↓qds,↓qdu,↓qdt,↓qd9,↓qea,↓qen,↓qeo,↓qdo,↓qdp,↓qdr,↓qdq,↓qdx,↓qep,↓qdv,↓qej,↓qdn,↓qed,↓qek,↓qel,↓qem,↓qd1,↓qd0,↓qd2,↓qd3,↓qd5,↓qdz,↓qd6,↓qd8,↓qd7,↓qdl,↓qdm,↓qdy,↓qaw,↓qdw,↓qee,↓qec,↓qdj,↓qeh,↓qeb,↓qd4,qav,qau,evs,evp,mkB,repB,fill,blen,qae,qad,qac,qab,qc1,qc0,qdg,qdi,qde,qdf,qcx,qcz,qcv,qcw,↓qdc,↓qdb,↓qdd,↓qah,↓qag,↓qai,↓retQ,res,resAll,resOne,kill,apartOk,exp,injV,injB,pur,purs,purR,pursR,List.set_cons_zero,List.set_cons_succ,List.length_cons,List.length_nil,List.cons_append,List.nil_append,List.append_nil,List.append_assoc,List.length_append,List.reduceReplicate,Nat.reduceAdd,Nat.reduceMul,Nat.reduceSub,Nat.reduceEqDiff,Nat.reduceLT,Nat.zero_add,Nat.add_zero,Nat.mul_one,Int.reduceToNat,Int.toNat_natCast,Int.cast_ofNat_Int,Int.reduceLE,Int.reduceLT,Int.reduceEq,reduceCtorEq,↓reduceIte,Bool.true_eq_false,Bool.false_eq_true,Bool.not_true,Bool.not_false,true_and,and_true,and_assoc,qaj,sub1,qc8,qc7,qc9,List.length_replicate,Nat.le_refl,forall_const,false_implies,true_implies,ne_eq,not_true_eq_false,not_false_eq_true,decide_true,decide_false,decide_eq_true_eq,decide_eq_false_iff_not,Bool.not_eq_true',Bool.not_eq_false',implies_true]; try rfl)
      ⟨by simp, by simp, by simp, by simp, Dig.replicate _ (by decide), by simp [val]⟩ ?_
    rintro ⟨j, c, l⟩ ⟨g1, g2, g3, g4, g5, g6⟩ K hK
    simp only [] at g1 g2 g3 g4 g5 g6
    simp only [apartOk,↓qax,↓qay,↓qa0,↓qaz,↓qcs,↓qbj,↓qa1,↓qcl,↓qb3,↓qci,↓qcb,↓qce,↓qcf,↓qb4,↓qcd,↓qcj,↓qb5,↓qcg,↓qch,↓qb6,↓qcc,↓qca,↓qb9,↓qb8,↓qb7,↓qa5,↓qbc,↓qa6,↓qbd,↓qa7,↓qbe,↓qa8,↓qbf,↓qa9,↓qbg,↓qba,↓qbh,↓qbb,↓qbi,↓qb2,↓qck,↓qcr,↓qco,↓qcp,↓qcq,↓qcn,↓qcm,↓qbm,↓qbn,↓qb0,↓qbv,↓qbq,↓qbu,↓qbz,↓qbw,↓qby,↓qbx,↓qbr,↓qbp,↓qb1,↓qbs,↓qbt,↓qbo,↓qa2,↓qa3,↓qa4,↓qbk,↓qbl,↓qex,↓qew,↓qet,↓qeu,↓qe2,↓qe1,↓qe0,qc5,↓qeq,↓qer,↓qev,↓qc4,↓qc2,↓qc3,↓qe7,↓qe8,↓qe9,↓qe6,qaa,↓qes,↓qef,↓qeg,↓qfb,↓qfa,↓qei,↓qdk,↓qds,↓qdu,↓qdt,↓qd9,↓qea,↓qen,↓qeo,↓qdo,↓qdp,↓qdr,↓qdq,↓qdx,↓qep,↓qdv,↓qej,↓qdn,↓qed,↓qek,↓qel,↓qem,↓qd1,↓qd0,↓qd2,↓qd3,↓qd5,↓qdz,↓qd6,↓qd8,↓qd7,↓qdl,↓qdm,↓qdy,↓qaw,↓qdw,↓qee,↓qec,↓qdj,↓qeh,↓qeb,↓qd4,qav,qau,evs,evp,mkB,repB,fill,blen,qae,qad,qac,qab,qc1,qc0,qdg,qdi,qde,qdf,qcx,qcz,qcv,qcw,↓qdc,↓qdb,↓qdd,↓qah,↓qag,↓qai,↓retQ,res,resAll,resOne,kill,apartOk,exp,injV,injB,pur,purs,purR,pursR,List.set_cons_zero,List.set_cons_succ,List.length_cons,List.length_nil,List.cons_append,List.nil_append,List.append_nil,List.append_assoc,List.length_append,List.reduceReplicate,Nat.reduceAdd,Nat.reduceMul,Nat.reduceSub,Nat.reduceEqDiff,Nat.reduceLT,Nat.zero_add,Nat.add_zero,Nat.mul_one,Int.reduceToNat,Int.toNat_natCast,Int.cast_ofNat_Int,Int.reduceLE,Int.reduceLT,Int.reduceEq,reduceCtorEq,↓reduceIte,Bool.true_eq_false,Bool.false_eq_true,Bool.not_true,Bool.not_false,true_and,and_true,and_assoc,qaj,sub1,qc8,qc7,qc9,List.length_replicate,Nat.le_refl,forall_const,false_implies,true_implies,ne_eq,not_true_eq_false,not_false_eq_true,decide_true,decide_false,decide_eq_true_eq,decide_eq_false_iff_not,Bool.not_eq_true',Bool.not_eq_false',implies_true]
    refine ⟨fun hj => ?_, fun hj => ?_⟩
    · have hj : j < n := by omega
      have ho := h3 j
      rw [wu64 (n := c + _) (by omega) (by omega), bAnd_ffff64 (by omega) (by omega), w64_inc (by omega), wu32 (by omega) (by omega)]
      repeat (refine And.intro (by first | omega | rfl) ?_)
      refine ⟨(j + 1, iShr .u64 (c + getI o j) 16, l.set j ((c + getI o j) % 65536)), hK _ ⟨by simp only []; omega, ?_, ?_, by simpa using g4, g5.set j (by omega) (by omega), ?_⟩ (by simp only []; omega), rfl⟩
      all_goals simp only [wrap_u8, wrap_u16, wrap_u32, wrap_u64, iShr_eq, Go.IntKind.bits, Int.reduceToNat, Int.toNat_natCast, Nat.min_def, Nat.reduceLeDiff, reduceIte, Int.reducePow]
      · omega
      · omega
      · rw [val_take_set 65536 _ (by omega), val_take_succ', Int.pow_succ]
        generalize (65536 : Int) ^ j = p at *
        have e1 : (c + getI o j) % 65536 = c + getI o j - (c + getI o j) / 65536 * 65536 := by omega
        rw [e1, Int.mul_sub, Int.mul_add, Int.mul_left_comm p ((c + getI o j) / 65536), Int.mul_comm p c]
        omega
    · have hj : j = n := by omega
      subst hj
      rw [List.take_of_length_le (by omega), List.take_of_length_le (by omega), h4] at g6
      simp only [out, outs, out1, pur, purs, qcv, qcw, List.not_mem_nil, not_false_eq_true, true_and, and_true, Nat.reduceLeDiff, Nat.le_refl]
      refine ⟨by omega, ?_⟩
      rw [qda g4]
      exact dig_of_mod (by decide) g5 g4 (-c) (by rw [Int.neg_mul]; omega)
end Am
set_option linter.unusedSimpArgs false
set_option linter.unusedVariables false
set_option maxRecDepth 20000
namespace Am
open Go.Proofs
/-! ### The reference's prime -/
def Ps : List Int := dig 65536 16 Pp
theorem val_Ps : val 65536 Ps = Pp := val_dig (by decide) (by decide) (by decide)
theorem Ps_dig : Dig 65536 Ps := dig_dig (by decide) _ _
theorem Ps_len : Ps.length = 16 := qaj _ _ _
def fpp (n : Nat) : List Int := itr (fun l i => l.set i 65535) (List.replicate 16 0) n
def pre55 (ds : List D) : Prop := ds = []
def F55 : List D → Out
  | _ => .one (.s .u32 Ps)
def s55 : Summ := sData [] pre55 F55
theorem ok55 {g : List Blk} [Ge gl g] : SumOK Try.prog g 55 s55 ∧ SumAbs s55 := by
  refine fsumA (l := []) mixed gl_plain rfl Try.func55 comp55 compR55 nt55 (by simp) fun ds hd hA => ?_
  rw [hd]
  simp only [ir55,rs55,gl,F55,qda,qc6,qaj,List.length_cons,List.length_nil,Nat.reduceAdd,Nat.le_refl,Nat.reduceLeDiff,Nat.reduceLT,true_and,and_true,↓qax,↓qay,↓qa0,↓qaz,↓qcs,↓qbj,↓qa1,↓qcl,↓qb3,↓qci,↓qcb,↓qce,↓qcf,↓qb4,↓qcd,↓qcj,↓qb5,↓qcg,↓qch,↓qb6,↓qcc,↓qca,↓qb9,↓qb8,↓qb7,↓qa5,↓qbc,↓qa6,↓qbd,↓qa7,↓qbe,↓qa8,↓qbf,↓qa9,↓qbg,↓qba,↓qbh,↓qbb,↓qbi,↓qb2,↓qck,↓qfc,↓qco,↓qcp,↓qcq,↓qcn,↓qcm,↓qbm,↓qbn,↓qb0,↓qbv,↓qbq,↓qbu,↓qbz,↓qbw,↓qby,↓qbx,↓qbr,↓qbp,↓qb1,↓qbs,↓qbt,↓qbo,↓qez,↓qey,↓qe3,↓qe5,↓qe4,↓qex,↓qew,↓qet,↓qeu,↓qe2,↓qe1,↓qe0,qc5,↓qeq,↓qer,↓qev,↓qc4,↓qc2,↓qc3,↓qe7,↓qe8,↓qe9,↓qe6,qaa,↓qes,↓qef,↓qeg,↓qfb,↓qfa,↓qei,↓qdk,↓qds,↓qd9,↓qea,↓qen,↓qeo,↓qdo,↓qdp,↓qdr,↓qdq,↓qdx,↓qep,↓qdv,↓qej,↓qdn,↓qed,↓qek,↓qel,↓qem,↓qd1,↓qd0,↓qd2,↓qd3,↓qd5,↓qdz,↓qd6,↓qd8,↓qd7,↓qdl,↓qdm,↓qdy,↓qaw,↓qdw,↓qee,↓qec,↓qdj,↓qeh,↓qeb,↓qd4,qav,List.drop_zero,Nat.sub_zero,qcy,qct,qcu,qdh,qat,qas,qaf,List.map_cons,List.map_nil,List.zip_cons_cons,List.zip_nil_right,List.zip_nil_left,qau,evs,evp,mkB,repB,blen,qae,qad,qac,qab,qc1,qc0,qdg,qdi,qde,qdf,qcx,qcz,qcv,qcw,↓qdc,↓qdb,↓qdd,↓qah,↓qag,↓qai,↓retQ,res,resAll,resOne,kill,apartOk,exp,injV,injB,pur,purs,purR,pursR,List.set_cons_zero,List.set_cons_succ,List.length_cons,List.length_nil,List.cons_append,List.nil_append,List.append_nil,List.append_assoc,List.length_append,List.reduceReplicate,Nat.reduceAdd,Nat.reduceMul,Nat.reduceSub,Nat.reduceEqDiff,Nat.reduceLT,Nat.zero_add,Nat.add_zero,Nat.mul_one,Int.reduceToNat,Int.toNat_natCast,Int.cast_ofNat_Int,Int.reduceLE,Int.reduceLT,Int.reduceEq,reduceCtorEq,↓reduceIte,Bool.true_eq_false,Bool.false_eq_true,Bool.not_true,Bool.not_false,true_and,and_true,and_assoc,qaj,sub1,qc8,qc7,qc9,List.length_replicate,Nat.le_refl,false_implies,true_implies,ne_eq,not_true_eq_false,not_false_eq_true,decide_true,decide_false,decide_eq_true_eq,decide_eq_false_iff_not,Bool.not_eq_true',Bool.not_eq_false']
  refine And.intro (by decide) ?_
  refine awp_loopA (n := 16) hA [1, 2] (by decide +kernel) (fun i : Nat => [.slice 4 0 1 16 16, .int .i64 i])
    (fun i => [.dead, .dead, .dead, .dead, .ints false .u32 (fpp i)]) (fun i => i ≤ 16) (fun i => 16 - i) 0 ?_ (by omega) ?_
  · refine Hd.same ?_
    simp only [fpp,itr,↓qax,↓qay,↓qa0,↓qaz,↓qcs,↓qbj,↓qa1,↓qcl,↓qb3,↓qci,↓qcb,↓qce,↓qcf,↓qb4,↓qcd,↓qcj,↓qb5,↓qcg,↓qch,↓qb6,↓qcc,↓qca,↓qb9,↓qb8,↓qb7,↓qa5,↓qbc,↓qa6,↓qbd,↓qa7,↓qbe,↓qa8,↓qbf,↓qa9,↓qbg,↓qba,↓qbh,↓qbb,↓qbi,↓qb2,↓qck,↓qfc,↓qco,↓qcp,↓qcq,↓qcn,↓qcm,↓qbm,↓qbn,↓qb0,↓qbv,↓qbq,↓qbu,↓qbz,↓qbw,↓qby,↓qbx,↓qbr,↓qbp,↓qb1,↓qbs,↓qbt,↓qbo,↓qez,↓qey,↓qe3,↓qe5,↓qe4,↓qex,↓qew,↓qet,↓qeu,↓qe2,↓qe1,↓qe0,qc5,↓qeq,↓qer,↓qev,↓qc4,↓qc2,↓qc3,↓qe7,↓qe8,↓qe9,↓qe6,qaa,↓qes,↓qef,↓qeg,↓qfb,↓qfa,↓qei,↓qdk,↓qds,↓qd9,↓qea,↓qen,↓qeo,↓qdo,↓qdp,↓qdr,↓qdq,↓qdx,↓qep,↓qdv,↓qej,↓qdn,↓qed,↓qek,↓qel,↓qem,↓qd1,↓qd0,↓qd2,↓qd3,↓qd5,↓qdz,↓qd6,↓qd8,↓qd7,↓qdl,↓qdm,↓qdy,↓qaw,↓qdw,↓qee,↓qec,↓qdj,↓qeh,↓qeb,↓qd4,qav,List.drop_zero,Nat.sub_zero,qcy,qct,qcu,qdh,qat,qas,qaf,List.map_cons,List.map_nil,List.zip_cons_cons,List.zip_nil_right,List.zip_nil_left,qau,evs,evp,mkB,repB,blen,qae,qad,qac,qab,qc1,qc0,qdg,qdi,qde,qdf,qcx,qcz,qcv,qcw,↓qdc,↓qdb,↓qdd,↓qah,↓qag,↓qai,↓retQ,res,resAll,resOne,kill,apartOk,exp,injV,injB,pur,purs,purR,pursR,List.set_cons_zero,List.set_cons_succ,List.length_cons,List.length_nil,List.cons_append,List.nil_append,List.append_nil,List.append_assoc,List.length_append,List.reduceReplicate,Nat.reduceAdd,Nat.reduceMul,Nat.reduceSub,Nat.reduceEqDiff,Nat.reduceLT,Nat.zero_add,Nat.add_zero,Nat.mul_one,Int.reduceToNat,Int.toNat_natCast,Int.cast_ofNat_Int,Int.reduceLE,Int.reduceLT,Int.reduceEq,reduceCtorEq,↓reduceIte,Bool.true_eq_false,Bool.false_eq_true,Bool.not_true,Bool.not_false,true_and,and_true,and_assoc,qaj,sub1,qc8,qc7,qc9,List.length_replicate,Nat.le_refl,false_implies,true_implies,ne_eq,not_true_eq_false,not_false_eq_true,decide_true,decide_false,decide_eq_true_eq,decide_eq_false_iff_not,Bool.not_eq_true',Bool.not_eq_false']
  intro i hi K hK
  have hl : (fpp i).length = 16 := itr_inv (fun _ (l : List Int) => l.length = 16) (by simp) (fun n l h => by simp [h]) i
  by_cases hlt : i < 16
  · have c1 : (i : Int) < 16 := by omega
    have wi : Go.IntKind.i64.wrap ((i : Int) + 1) = ((i + 1 : Nat) : Int) := by rw [wrap_i64]; omega
    have hs1 : fpp (i + 1) = (fpp i).set i 65535 := rfl
    obtain ⟨w, hw⟩ : ∃ w, fpp i = w := ⟨_, rfl⟩
    rw [hw] at hl hs1
    rw [hw]
    simp only [c1,wi,hl,hlt,qda,qc6,qaj,List.length_cons,List.length_nil,Nat.reduceAdd,Nat.le_refl,Nat.reduceLeDiff,Nat.reduceLT,true_and,and_true,↓qax,↓qay,↓qa0,↓qaz,↓qcs,↓qbj,↓qa1,↓qcl,↓qb3,↓qci,↓qcb,↓qce,↓qcf,↓qb4,↓qcd,↓qcj,↓qb5,↓qcg,↓qch,↓qb6,↓qcc,↓qca,↓qb9,↓qb8,↓qb7,↓qa5,↓qbc,↓qa6,↓qbd,↓qa7,↓qbe,↓qa8,↓qbf,↓qa9,↓qbg,↓qba,↓qbh,↓qbb,↓qbi,↓qb2,↓qck,↓qfc,↓qco,↓qcp,↓qcq,↓qcn,↓qcm,↓qbm,↓qbn,↓qb0,↓qbv,↓qbq,↓qbu,↓qbz,↓qbw,↓qby,↓qbx,↓qbr,↓qbp,↓qb1,↓qbs,↓qbt,↓qbo,↓qez,↓qey,↓qe3,↓qe5,↓qe4,↓qex,↓qew,↓qet,↓qeu,↓qe2,↓qe1,↓qe0,qc5,↓qeq,↓qer,↓qev,↓qc4,↓qc2,↓qc3,↓qe7,↓qe8,↓qe9,↓qe6,qaa,↓qes,↓qef,↓qeg,↓qfb,↓qfa,↓qei,↓qdk,↓qds,↓qd9,↓qea,↓qen,↓qeo,↓qdo,↓qdp,↓qdr,↓qdq,↓qdx,↓qep,↓qdv,↓qej,↓qdn,↓qed,↓qek,↓qel,↓qem,↓qd1,↓qd0,↓qd2,↓qd3,↓qd5,↓qdz,↓qd6,↓qd8,↓qd7,↓qdl,↓qdm,↓qdy,↓qaw,↓qdw,↓qee,↓qec,↓qdj,↓qeh,↓qeb,↓qd4,qav,List.drop_zero,Nat.sub_zero,qcy,qct,qcu,qdh,qat,qas,qaf,List.map_cons,List.map_nil,List.zip_cons_cons,List.zip_nil_right,List.zip_nil_left,qau,evs,evp,mkB,repB,blen,qae,qad,qac,qab,qc1,qc0,qdg,qdi,qde,qdf,qcx,qcz,qcv,qcw,↓qdc,↓qdb,↓qdd,↓qah,↓qag,↓qai,↓retQ,res,resAll,resOne,kill,apartOk,exp,injV,injB,pur,purs,purR,pursR,List.set_cons_zero,List.set_cons_succ,List.length_cons,List.length_nil,List.cons_append,List.nil_append,List.append_nil,List.append_assoc,List.length_append,List.reduceReplicate,Nat.reduceAdd,Nat.reduceMul,Nat.reduceSub,Nat.reduceEqDiff,Nat.reduceLT,Nat.zero_add,Nat.add_zero,Nat.mul_one,Int.reduceToNat,Int.toNat_natCast,Int.cast_ofNat_Int,Int.reduceLE,Int.reduceLT,Int.reduceEq,reduceCtorEq,↓reduceIte,Bool.true_eq_false,Bool.false_eq_true,Bool.not_true,Bool.not_false,true_and,and_true,and_assoc,qaj,sub1,qc8,qc7,qc9,List.length_replicate,Nat.le_refl,false_implies,true_implies,ne_eq,not_true_eq_false,not_false_eq_true,decide_true,decide_false,decide_eq_true_eq,decide_eq_false_iff_not,Bool.not_eq_true',Bool.not_eq_false']
    repeat (refine And.intro (by omega) ?_)
    refine ⟨i + 1, hK _ (by omega) (by omega), Hd.same ?_⟩
    simp only [hs1,↓qax,↓qay,↓qa0,↓qaz,↓qcs,↓qbj,↓qa1,↓qcl,↓qb3,↓qci,↓qcb,↓qce,↓qcf,↓qb4,↓qcd,↓qcj,↓qb5,↓qcg,↓qch,↓qb6,↓qcc,↓qca,↓qb9,↓qb8,↓qb7,↓qa5,↓qbc,↓qa6,↓qbd,↓qa7,↓qbe,↓qa8,↓qbf,↓qa9,↓qbg,↓qba,↓qbh,↓qbb,↓qbi,↓qb2,↓qck,↓qfc,↓qco,↓qcp,↓qcq,↓qcn,↓qcm,↓qbm,↓qbn,↓qb0,↓qbv,↓qbq,↓qbu,↓qbz,↓qbw,↓qby,↓qbx,↓qbr,↓qbp,↓qb1,↓qbs,↓qbt,↓qbo,↓qez,↓qey,↓qe3,↓qe5,↓qe4,↓qex,↓qew,↓qet,↓qeu,↓qe2,↓qe1,↓qe0,qc5,↓qeq,↓qer,↓qev,↓qc4,↓qc2,↓qc3,↓qe7,↓qe8,↓qe9,↓qe6,qaa,↓qes,↓qef,↓qeg,↓qfb,↓qfa,↓qei,↓qdk,↓qds,↓qd9,↓qea,↓qen,↓qeo,↓qdo,↓qdp,↓qdr,↓qdq,↓qdx,↓qep,↓qdv,↓qej,↓qdn,↓qed,↓qek,↓qel,↓qem,↓qd1,↓qd0,↓qd2,↓qd3,↓qd5,↓qdz,↓qd6,↓qd8,↓qd7,↓qdl,↓qdm,↓qdy,↓qaw,↓qdw,↓qee,↓qec,↓qdj,↓qeh,↓qeb,↓qd4,qav,List.drop_zero,Nat.sub_zero,qcy,qct,qcu,qdh,qat,qas,qaf,List.map_cons,List.map_nil,List.zip_cons_cons,List.zip_nil_right,List.zip_nil_left,qau,evs,evp,mkB,repB,blen,qae,qad,qac,qab,qc1,qc0,qdg,qdi,qde,qdf,qcx,qcz,qcv,qcw,↓qdc,↓qdb,↓qdd,↓qah,↓qag,↓qai,↓retQ,res,resAll,resOne,kill,apartOk,exp,injV,injB,pur,purs,purR,pursR,List.set_cons_zero,List.set_cons_succ,List.length_cons,List.length_nil,List.cons_append,List.nil_append,List.append_nil,List.append_assoc,List.length_append,List.reduceReplicate,Nat.reduceAdd,Nat.reduceMul,Nat.reduceSub,Nat.reduceEqDiff,Nat.reduceLT,Nat.zero_add,Nat.add_zero,Nat.mul_one,Int.reduceToNat,Int.toNat_natCast,Int.cast_ofNat_Int,Int.reduceLE,Int.reduceLT,Int.reduceEq,reduceCtorEq,↓reduceIte,Bool.true_eq_false,Bool.false_eq_true,Bool.not_true,Bool.not_false,true_and,and_true,and_assoc,qaj,sub1,qc8,qc7,qc9,List.length_replicate,Nat.le_refl,false_implies,true_implies,ne_eq,not_true_eq_false,not_false_eq_true,decide_true,decide_false,decide_eq_true_eq,decide_eq_false_iff_not,Bool.not_eq_true',Bool.not_eq_false']
  obtain rfl : i = 16 := by omega
  have c1 : ¬((16 : Nat) : Int) < 16 := by omega
  have e : ((fpp 16).set 0 65517).set 15 32767 = Ps := by decide
  simp only [c1,hl,e,List.length_set,qda,qc6,qaj,List.length_cons,List.length_nil,Nat.reduceAdd,Nat.le_refl,Nat.reduceLeDiff,Nat.reduceLT,true_and,and_true,↓qax,↓qay,↓qa0,↓qaz,↓qcs,↓qbj,↓qa1,↓qcl,↓qb3,↓qci,↓qcb,↓qce,↓qcf,↓qb4,↓qcd,↓qcj,↓qb5,↓qcg,↓qch,↓qb6,↓qcc,↓qca,↓qb9,↓qb8,↓qb7,↓qa5,↓qbc,↓qa6,↓qbd,↓qa7,↓qbe,↓qa8,↓qbf,↓qa9,↓qbg,↓qba,↓qbh,↓qbb,↓qbi,↓qb2,↓qck,↓qfc,↓qco,↓qcp,↓qcq,↓qcn,↓qcm,↓qbm,↓qbn,↓qb0,↓qbv,↓qbq,↓qbu,↓qbz,↓qbw,↓qby,↓qbx,↓qbr,↓qbp,↓qb1,↓qbs,↓qbt,↓qbo,↓qez,↓qey,↓qe3,↓qe5,↓qe4,↓qex,↓qew,↓qet,↓qeu,↓qe2,↓qe1,↓qe0,qc5,↓qeq,↓qer,↓qev,↓qc4,↓qc2,↓qc3,↓qe7,↓qe8,↓qe9,↓qe6,qaa,↓qes,↓qef,↓qeg,↓qfb,↓qfa,↓qei,↓qdk,↓qds,↓qd9,↓qea,↓qen,↓qeo,↓qdo,↓qdp,↓qdr,↓qdq,↓qdx,↓qep,↓qdv,↓qej,↓qdn,↓qed,↓qek,↓qel,↓qem,↓qd1,↓qd0,↓qd2,↓qd3,↓qd5,↓qdz,↓qd6,↓qd8,↓qd7,↓qdl,↓qdm,↓qdy,↓qaw,↓qdw,↓qee,↓qec,↓qdj,↓qeh,↓qeb,↓qd4,qav,List.drop_zero,Nat.sub_zero,qcy,qct,qcu,qdh,qat,qas,qaf,List.map_cons,List.map_nil,List.zip_cons_cons,List.zip_nil_right,List.zip_nil_left,qau,evs,evp,mkB,repB,blen,qae,qad,qac,qab,qc1,qc0,qdg,qdi,qde,qdf,qcx,qcz,qcv,qcw,↓qdc,↓qdb,↓qdd,↓qah,↓qag,↓qai,↓retQ,res,resAll,resOne,kill,apartOk,exp,injV,injB,pur,purs,purR,pursR,List.set_cons_zero,List.set_cons_succ,List.length_cons,List.length_nil,List.cons_append,List.nil_append,List.append_nil,List.append_assoc,List.length_append,List.reduceReplicate,Nat.reduceAdd,Nat.reduceMul,Nat.reduceSub,Nat.reduceEqDiff,Nat.reduceLT,Nat.zero_add,Nat.add_zero,Nat.mul_one,Int.reduceToNat,Int.toNat_natCast,Int.cast_ofNat_Int,Int.reduceLE,Int.reduceLT,Int.reduceEq,reduceCtorEq,↓reduceIte,Bool.true_eq_false,Bool.false_eq_true,Bool.not_true,Bool.not_false,true_and,and_true,and_assoc,qaj,sub1,qc8,qc7,qc9,List.length_replicate,Nat.le_refl,false_implies,true_implies,ne_eq,not_true_eq_false,not_false_eq_true,decide_true,decide_false,decide_eq_true_eq,decide_eq_false_iff_not,Bool.not_eq_true',Bool.not_eq_false']
  repeat (refine And.intro (by omega) ?_)
  exact out_sl (b := 4) rfl (by omega) (by rw [Ps_len]; omega) (qda Ps_len)
end Am
set_option linter.unusedSimpArgs false
set_option linter.unusedVariables false
set_option maxRecDepth 20000
namespace Am
/-! ### Folding, as numbers -/
def Q255 : Int := 57896044618658097711785492504343953926634992332820282019728792003956564819968
theorem Q255_eq : Q255 = 2 ^ 255 := by decide
/-- How many parts are left when noughts at the end are struck. -/
def trm (h : List Int) : Nat → Nat
  | 0 => 0
  | n + 1 => if getI h n = 0 then trm h n else n + 1
theorem trm_le (h : List Int) : ∀ n, trm h n ≤ n
  | 0 => Nat.le_refl _
  | n + 1 => by unfold trm; split
                · exact Nat.le_succ_of_le (trm_le h n)
                · exact Nat.le_refl _
theorem trm_le_of {h : List Int} {m : Nat} (hz : ∀ j, m ≤ j → getI h j = 0) : ∀ n, trm h n ≤ m
  | 0 => Nat.zero_le _
  | n + 1 => by
    unfold trm; split
    · exact trm_le_of hz n
    · rename_i hne
      rcases Nat.lt_or_ge n m with h1 | h1
      · exact h1
      · exact absurd (hz n h1) hne
theorem trm_zero {h : List Int} : ∀ {n : Nat}, ∀ j, trm h n ≤ j → j < n → getI h j = 0
  | 0, j, _, hj => by omega
  | n + 1, j, h1, hj => by
    unfold trm at h1
    split at h1
    · rename_i h0
      by_cases e : j = n
      · rw [e]; exact h0
      · exact trm_zero (n := n) j h1 (by omega)
    · omega
/-- What stands above 2^255. -/
def top (a : List Int) : Int := val 65536 a / Q255
def tops (a : List Int) : List Int := dig 65536 a.length (top a)
def nt (a : List Int) : Nat := trm (tops a) a.length
def fstep (a : List Int) : List Int := dig 65536 (max 16 (nt a + 2) + 1) (val 65536 a % Q255 + top a * 19)
def foldN : Nat → List Int → List Int
  | 0, a => a
  | k + 1, a => if 17 < a.length ∨ Pp - 1 < val 65536 a then (if top a = 0 then dig 65536 16 (val 65536 a % Pp) else foldN k (fstep a)) else a
def foldL (a : List Int) : List Int := foldN ((val 65536 a).toNat + 1) a
theorem val_split (B : Int) : ∀ (xs : List Int) (n : Nat), val B xs = val B (xs.take n) + B ^ n * val B (xs.drop n)
  | xs, n => by
    rcases Nat.lt_or_ge xs.length n with h | h
    · rw [List.take_of_length_le (by omega), List.drop_of_length_le (by omega)]; simp [val]
    · exact val_drop B xs n h
theorem top_bd {a : List Int} (h : Dig 65536 a) : 0 ≤ top a ∧ top a ≤ val 65536 a := by
  have h0 := val_nonneg (by decide) h
  unfold top Q255; omega
theorem top_lt {a : List Int} (h : Dig 65536 a) (hl : 17 ≤ a.length) : top a < 65536 ^ (a.length - 15) := by
  have h1 := (val_bound (by decide : (0 : Int) < 65536) h).2
  have e : (65536 : Int) ^ a.length = 65536 ^ (a.length - 15) * 65536 ^ 15 := by rw [← Int.pow_add]; congr 1; omega
  have hp : (0 : Int) < 65536 ^ (a.length - 15) := Int.pow_pos (by decide)
  unfold top
  refine Int.ediv_lt_of_lt_mul (by decide) ?_
  rw [e] at h1
  exact Int.lt_of_lt_of_le h1 (Int.mul_le_mul_of_nonneg_left (by decide) (Int.le_of_lt hp))
theorem top_any {a : List Int} (h : Dig 65536 a) : top a < 65536 ^ a.length := Int.lt_of_le_of_lt (top_bd h).2 (val_bound (by decide : (0 : Int) < 65536) h).2
theorem tops_get {a : List Int} {j : Nat} (hj : j < a.length) : getI (tops a) j = top a / 65536 ^ j % 65536 := getI_dig (by decide) hj
theorem nt_le {a : List Int} (h : Dig 65536 a) : nt a ≤ a.length ∧ (17 ≤ a.length → nt a ≤ a.length - 15) := by
  refine ⟨trm_le _ _, fun hl => trm_le_of (fun j hj => ?_) _⟩
  rcases Nat.lt_or_ge j a.length with h1 | h1
  · rw [tops_get h1, Int.ediv_eq_zero_of_lt (top_bd h).1 ?_]; · rfl
    refine Int.lt_of_lt_of_le (top_lt h hl) ?_
    have e : (65536 : Int) ^ j = 65536 ^ (a.length - 15) * 65536 ^ (j - (a.length - 15)) := by rw [← Int.pow_add]; congr 1; omega
    have hp : (0 : Int) < 65536 ^ (a.length - 15) := Int.pow_pos (by decide)
    have hq : (0 : Int) < 65536 ^ (j - (a.length - 15)) := Int.pow_pos (by decide)
    rw [e]
    have := Int.mul_le_mul_of_nonneg_left (show (1 : Int) ≤ 65536 ^ (j - (a.length - 15)) by omega) (Int.le_of_lt hp)
    rwa [Int.mul_one] at this
  · rw [tops, getI_of_le (by rw [qaj]; exact h1)]
theorem val_zero_tail {B : Int} (hB : 0 < B) {h : List Int} {n : Nat} (hn : n ≤ h.length) (hz : ∀ j, n ≤ j → j < h.length → getI h j = 0) : val B (sub h 0 n) = val B h := by
  have e : val B (h.drop n) = 0 := by
    have : val B (h.drop n) = val B (List.replicate (h.length - n) 0) := by
      congr 1
      refine getI_ext (by simp) fun j hj => ?_
      rw [List.length_drop] at hj
      rw [getI_drop, getI_replicate0, hz (n + j) (by omega) (by omega)]
    rw [this, val_replicate]
  have := val_drop B h n hn
  rw [e, Int.mul_zero, Int.add_zero] at this
  simp only [sub, List.drop_zero]
  exact this.symm
theorem val_cut {a : List Int} (h : Dig 65536 a) : val 65536 (sub (tops a) 0 (nt a)) = top a := by
  have hl : (tops a).length = a.length := qaj _ _ _
  show val 65536 (sub (tops a) 0 (trm (tops a) a.length)) = top a
  rw [val_zero_tail (by decide) (by rw [hl]; exact (nt_le h).1) (fun j hj h2 => trm_zero (n := a.length) j hj (by omega))]
  exact val_dig (by decide) (top_bd h).1 (top_any h)
theorem nt_zero {a : List Int} (h : Dig 65536 a) : nt a = 0 ↔ top a = 0 := by
  constructor
  · intro h0
    have := val_cut h
    rw [h0] at this
    rw [← this]; rfl
  · intro h0
    have : ∀ j, 0 ≤ j → getI (tops a) j = 0 := fun j _ => by
      rcases Nat.lt_or_ge j a.length with h1 | h1
      · rw [tops_get h1, h0]; simp
      · rw [tops, getI_of_le (by rw [qaj]; exact h1)]
    exact Nat.le_zero.1 (trm_le_of this _)
theorem step_val {a : List Int} (h : Dig 65536 a) (hl : a.length ≤ 60000) : val 65536 (fstep a) = val 65536 a % Q255 + top a * 19 := by
  refine val_dig (by decide) ?_ ?_
  · have := top_bd h; have h2 : 0 ≤ val 65536 a % Q255 := Int.emod_nonneg _ (by decide); omega
  · have h1 : val 65536 a % Q255 < Q255 := Int.emod_lt_of_pos _ (by decide)
    have hc := val_cut h
    have hd : Dig 65536 (sub (tops a) 0 (nt a)) := (dig_dig (by decide) _ _).sub 0 _
    have hb := (val_bound (by decide : (0 : Int) < 65536) hd).2
    have hsl : (sub (tops a) 0 (nt a)).length = nt a := by simp [sub, tops, qaj, (nt_le h).1]
    rw [hc, hsl] at hb
    have e1 : (65536 : Int) ^ (max 16 (nt a + 2) + 1) = 65536 ^ (max 16 (nt a + 2)) * 65536 := Int.pow_succ ..
    have e2 : (65536 : Int) ^ max 16 (nt a + 2) ≥ 65536 ^ (nt a + 2) := by
      have e : (65536 : Int) ^ max 16 (nt a + 2) = 65536 ^ (nt a + 2) * 65536 ^ (max 16 (nt a + 2) - (nt a + 2)) := by rw [← Int.pow_add]; congr 1; omega
      have hp : (0 : Int) < 65536 ^ (nt a + 2) := Int.pow_pos (by decide)
      have hq : (0 : Int) < 65536 ^ (max 16 (nt a + 2) - (nt a + 2)) := Int.pow_pos (by decide)
      rw [e]
      have := Int.mul_le_mul_of_nonneg_left (show (1 : Int) ≤ 65536 ^ (max 16 (nt a + 2) - (nt a + 2)) by omega) (Int.le_of_lt hp)
      rwa [Int.mul_one] at this
    have e3 : (65536 : Int) ^ max 16 (nt a + 2) ≥ Q255 := by
      have e : (65536 : Int) ^ max 16 (nt a + 2) = 65536 ^ 16 * 65536 ^ (max 16 (nt a + 2) - 16) := by rw [← Int.pow_add]; congr 1; omega
      have hq : (0 : Int) < 65536 ^ (max 16 (nt a + 2) - 16) := Int.pow_pos (by decide)
      rw [e]
      have := Int.mul_le_mul_of_nonneg_left (show (1 : Int) ≤ 65536 ^ (max 16 (nt a + 2) - 16) by omega) (show (0 : Int) ≤ 65536 ^ 16 by decide)
      rw [Int.mul_one] at this
      exact Int.le_trans (by decide) this
    have e4 : (65536 : Int) ^ (nt a + 2) = 65536 ^ nt a * 4294967296 := by rw [Int.pow_add]; rfl
    rw [e1]
    rw [e4] at e2
    have ht0 := (top_bd h).1
    generalize (65536 : Int) ^ max 16 (nt a + 2) = A at *
    generalize (65536 : Int) ^ nt a = B at *
    omega
theorem step_lt {a : List Int} (h : Dig 65536 a) (ht : top a ≠ 0) : val 65536 a % Q255 + top a * 19 < val 65536 a := by
  have h0 := (top_bd h).1
  unfold top Q255 at *
  omega
theorem step_mod {a : List Int} : (val 65536 a % Q255 + top a * 19) % Pp = val 65536 a % Pp := by
  unfold top Q255 Pp
  omega
theorem step_len {a : List Int} (h : Dig 65536 a) (hl : a.length ≤ 60000) : (fstep a).length ≤ 60000 := by
  rw [fstep, qaj]
  have := nt_le h
  omega
/-- What folding leaves. -/
structure Lg (l : List Int) (n : Int) : Prop where
  dig : Dig 65536 l
  len : l.length ≤ 17
  is : val 65536 l = n
  lo : 0 ≤ n
  hi : n < Pp
theorem foldN_lg : ∀ {k : Nat} {a : List Int}, Dig 65536 a → a.length ≤ 60000 → val 65536 a < k → Lg (foldN k a) (val 65536 a % Pp)
  | 0, a, h, _, hk => absurd (val_nonneg (by decide : (0 : Int) < 65536) h) (by omega)
  | k + 1, a, h, hl, hk => by
    have h0 := val_nonneg (by decide : (0 : Int) < 65536) h
    have hm0 : 0 ≤ val 65536 a % Pp := Int.emod_nonneg _ (by decide)
    have hm1 : val 65536 a % Pp < Pp := Int.emod_lt_of_pos _ (by decide)
    unfold foldN
    split
    · split
      · exact ⟨dig_dig (by decide) _ _, by rw [qaj]; decide, val_dig (by decide) hm0 (Int.lt_trans hm1 (by decide)), hm0, hm1⟩
      · rename_i ht
        have hv := step_val h hl
        have hlt := step_lt h ht
        have := foldN_lg (k := k) (a := fstep a) (dig_dig (by decide) _ _) (step_len h hl) (by rw [hv]; omega)
        rw [hv, step_mod] at this
        exact this
    · rename_i hc
      have hc1 : a.length ≤ 17 := by omega
      have hc2 : val 65536 a ≤ Pp - 1 := by omega
      exact ⟨h, hc1, (Int.emod_eq_of_lt h0 (by omega)).symm, hm0, hm1⟩
theorem fold_lg {a : List Int} (h : Dig 65536 a) (hl : a.length ≤ 60000) : Lg (foldL a) (val 65536 a % Pp) :=
  foldN_lg h hl (by have := val_nonneg (by decide : (0 : Int) < 65536) h; omega)
end Am
