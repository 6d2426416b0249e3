/-
Working texts: contracts of functions, and the numbers behind them.
-/
import Derived.Test.YtbmdhkfdigeebaaAeQ
import Derived.Test.YtbmdhkfdigeebaaIrD
set_option linter.unusedSimpArgs false
set_option linter.unusedVariables false
set_option linter.unusedSectionVars false
set_option linter.unusedSimpArgs false
set_option linter.unusedVariables false
set_option maxRecDepth 20000
namespace Am
open Go.Proofs
/-! ### Blocks as two numbers -/
theorem getI2_0 {x y : Int} : getI [x, y] 0 = x := by simp [getI]
theorem getI2_1 {x y : Int} : getI [x, y] 1 = y := by simp [getI]
def ofS (b : List Int) (h : Int × Int) (i : Nat) : Int × Int := (bOr .u64 (iShl .u64 h.1 8) (getI b i), bOr .u64 (iShl .u64 h.2 8) (getI b (8 + i)))
def ofF (b : List Int) : Int × Int := itr (ofS b) (0, 0) 8
def preOf (ds : List D) : Prop := ∃ b : List Int, ds = [.v (.ints .u8 b)] ∧ B16 b
def F38 : List D → Out
  | [.v (.ints _ b)] => .one (.v (.ints .u64 [(ofF b).1, (ofF b).2]))
  | _ => bad
def s38 : Summ := sData [.v] preOf F38
theorem wrap64 {x : Int} (h0 : 0 ≤ x) (h : x < 256) : Go.IntKind.u64.wrap x = x := by rw [wrap_u64]; omega
set_option maxHeartbeats 2000000 in
theorem ok38 {g : List Blk} [Ge gl g] : SumOK Try.prog g 38 s38 ∧ SumAbs s38 := by
  refine fsumA (l := []) mixed gl_plain rfl Try.func38 comp38 compR38 nt38 (by simp) fun ds ⟨b, hd, hb⟩ hA => ?_
  subst hd
  have hbl := hb.1
  have hF : F38 [.v (.ints .u8 b)] = .one (.v (.ints .u64 [(ofF b).1, (ofF b).2])) := rfl
  have sb : sub b 0 16 = b := qdk hbl
  simp only [ir38,rs38,gl,hF,hbl,sb,qdk,qdg,qaj,List.length_cons,List.length_nil,Nat.reduceAdd,Nat.le_refl,Nat.reduceLeDiff,Nat.reduceLT,true_and,and_true,↓qax,↓qay,↓qa0,↓qaz,↓qcy,↓qbj,↓qa1,↓qcr,↓qb3,↓qco,↓qcb,↓qck,↓qcl,↓qb4,↓qcj,↓qcp,↓qb5,↓qcm,↓qcn,↓qb6,↓qcc,↓qca,↓qb9,↓qb8,↓qb7,↓qa5,↓qbc,↓qa6,↓qbd,↓qa7,↓qbe,↓qa8,↓qbf,↓qa9,↓qbg,↓qba,↓qbh,↓qbb,↓qbi,↓qb2,↓qcq,↓qfq,↓qcu,↓qcv,↓qcw,↓qct,↓qcs,↓qbm,↓qbn,↓qb0,↓qbv,↓qbq,↓qbu,↓qbz,↓qbw,↓qby,↓qbx,↓qbr,↓qbp,↓qb1,↓qbs,↓qbt,↓qbo,↓qfd,↓qfc,↓qfh,↓qfj,↓qfi,↓qfb,↓qfa,↓qe7,↓qe8,↓qfg,↓qff,↓qfe,qdf,↓qe4,↓qe5,↓qe9,↓qdc,↓qda,↓qdb,↓qfl,↓qfm,↓qfn,↓qfk,qaa,↓qe6,↓qer,↓qes,↓qfp,↓qfo,↓qev,↓qdu,↓qd2,↓qej,↓qek,↓qe0,↓qe2,↓qdy,↓qdz,↓qd1,↓qd0,↓qd7,↓qe3,↓qd5,↓qew,↓qdx,↓qep,↓qex,↓qey,↓qez,↓qeb,↓qea,↓qec,↓qed,↓qef,↓qd9,↓qeg,↓qei,↓qeh,↓qdv,↓qdw,↓qd8,↓qaw,↓qd6,↓qeq,↓qem,↓qdt,↓qet,↓qen,↓qeo,↓qeu,↓qcd,↓qce,↓qcf,↓qcg,↓qch,↓qci,qdd,qde,qc1,qc2,↓qel,↓qee,qav,List.drop_zero,Nat.sub_zero,qc6,qcz,qc0,qdr,qat,qas,qaf,List.map_cons,List.map_nil,List.zip_cons_cons,List.zip_nil_right,List.zip_nil_left,qau,evs,evp,mkB,repB,blen,qae,qad,qac,qab,qc9,qc8,qdq,qds,qdo,qdp,qc5,qc7,qc3,qc4,↓qdm,↓qdl,↓qdn,↓qah,↓qag,↓qai,↓retQ,res,resAll,resOne,kill,apartOk,exp,injV,injB,pur,purs,purR,pursR,List.set_cons_zero,List.set_cons_succ,List.length_cons,List.length_nil,List.cons_append,List.nil_append,List.append_nil,List.append_assoc,List.length_append,List.reduceReplicate,Nat.reduceAdd,Nat.reduceMul,Nat.reduceSub,Nat.reduceEqDiff,Nat.reduceLT,Nat.zero_add,Nat.add_zero,Nat.mul_one,Int.reduceToNat,Int.toNat_natCast,Int.cast_ofNat_Int,Int.reduceLE,Int.reduceLT,Int.reduceEq,reduceCtorEq,↓reduceIte,Bool.true_eq_false,Bool.false_eq_true,Bool.not_true,Bool.not_false,true_and,and_true,and_assoc,qaj,sub1,qdi,qdh,qdj,List.length_replicate,Nat.le_refl,false_implies,true_implies,ne_eq,not_true_eq_false,not_false_eq_true,decide_true,decide_false,decide_eq_true_eq,decide_eq_false_iff_not,Bool.not_eq_true',Bool.not_eq_false']
  refine awp_loopA (n := 29) hA [1, 2, 3, 5] (by decide +kernel) (fun i : Nat => [.ptr 4 0, .ptr 5 0, .ptr 6 0, .int .i64 i])
    (fun i => [.dead, .dead, .dead, .dead, .ints false .u8 b, .ints false .u64 [0, 0], .ints false .u64 [(itr (ofS b) (0, 0) i).1, (itr (ofS b) (0, 0) i).2]]) (fun i => i ≤ 8) (fun i => 8 - i) 0 ?_ (by omega) ?_
  · refine Hd.same ?_
    simp only [itr, List.map_cons, List.map_nil, Nat.reduceLT, qc6, qcz, qc0, reduceCtorEq, ↓reduceIte, Nat.reduceEqDiff, Int.cast_ofNat_Int, List.append_nil, List.cons_append, List.nil_append, qaf, and_true, true_and, Nat.zero_add, Nat.add_zero, Nat.reduceAdd, qc3, qc4, List.reduceReplicate]
  intro i hi K hK
  by_cases hlt : i < 8
  · have c1 : (i : Int) < 8 := by omega
    have wi : Go.IntKind.i64.wrap ((i : Int) + 1) = ((i + 1 : Nat) : Int) := by rw [wrap_i64]; omega
    have w8 : Go.IntKind.i64.wrap (8 + (i : Int)) = ((8 + i : Nat) : Int) := by rw [wrap_i64]; omega
    have hx : itr (ofS b) (0, 0) (i + 1) = ofS b (itr (ofS b) (0, 0) i) i := rfl
    obtain ⟨h, hh⟩ : ∃ h, itr (ofS b) (0, 0) i = h := ⟨_, rfl⟩
    rw [hh] at hx
    rw [hh]
    have b1 : i < 16 := by omega
    have b2 : 8 + i < 16 := by omega
    have g1 := hb.2.all (by decide) i
    have g2 := hb.2.all (by decide) (8 + i)
    have v1 := wrap64 g1.1 g1.2
    have v2 := wrap64 g2.1 g2.2
    simp only [c1,wi,w8,hbl,b1,b2,v1,v2,getI2_0,getI2_1,qdk,qdg,qaj,List.length_cons,List.length_nil,Nat.reduceAdd,Nat.le_refl,Nat.reduceLeDiff,Nat.reduceLT,true_and,and_true,↓qax,↓qay,↓qa0,↓qaz,↓qcy,↓qbj,↓qa1,↓qcr,↓qb3,↓qco,↓qcb,↓qck,↓qcl,↓qb4,↓qcj,↓qcp,↓qb5,↓qcm,↓qcn,↓qb6,↓qcc,↓qca,↓qb9,↓qb8,↓qb7,↓qa5,↓qbc,↓qa6,↓qbd,↓qa7,↓qbe,↓qa8,↓qbf,↓qa9,↓qbg,↓qba,↓qbh,↓qbb,↓qbi,↓qb2,↓qcq,↓qfq,↓qcu,↓qcv,↓qcw,↓qct,↓qcs,↓qbm,↓qbn,↓qb0,↓qbv,↓qbq,↓qbu,↓qbz,↓qbw,↓qby,↓qbx,↓qbr,↓qbp,↓qb1,↓qbs,↓qbt,↓qbo,↓qfd,↓qfc,↓qfh,↓qfj,↓qfi,↓qfb,↓qfa,↓qe7,↓qe8,↓qfg,↓qff,↓qfe,qdf,↓qe4,↓qe5,↓qe9,↓qdc,↓qda,↓qdb,↓qfl,↓qfm,↓qfn,↓qfk,qaa,↓qe6,↓qer,↓qes,↓qfp,↓qfo,↓qev,↓qdu,↓qd2,↓qej,↓qek,↓qe0,↓qe2,↓qdy,↓qdz,↓qd1,↓qd0,↓qd7,↓qe3,↓qd5,↓qew,↓qdx,↓qep,↓qex,↓qey,↓qez,↓qeb,↓qea,↓qec,↓qed,↓qef,↓qd9,↓qeg,↓qei,↓qeh,↓qdv,↓qdw,↓qd8,↓qaw,↓qd6,↓qeq,↓qem,↓qdt,↓qet,↓qen,↓qeo,↓qeu,↓qcd,↓qce,↓qcf,↓qcg,↓qch,↓qci,qdd,qde,qc1,qc2,↓qel,↓qee,qav,List.drop_zero,Nat.sub_zero,qc6,qcz,qc0,qdr,qat,qas,qaf,List.map_cons,List.map_nil,List.zip_cons_cons,List.zip_nil_right,List.zip_nil_left,qau,evs,evp,mkB,repB,blen,qae,qad,qac,qab,qc9,qc8,qdq,qds,qdo,qdp,qc5,qc7,qc3,qc4,↓qdm,↓qdl,↓qdn,↓qah,↓qag,↓qai,↓retQ,res,resAll,resOne,kill,apartOk,exp,injV,injB,pur,purs,purR,pursR,List.set_cons_zero,List.set_cons_succ,List.length_cons,List.length_nil,List.cons_append,List.nil_append,List.append_nil,List.append_assoc,List.length_append,List.reduceReplicate,Nat.reduceAdd,Nat.reduceMul,Nat.reduceSub,Nat.reduceEqDiff,Nat.reduceLT,Nat.zero_add,Nat.add_zero,Nat.mul_one,Int.reduceToNat,Int.toNat_natCast,Int.cast_ofNat_Int,Int.reduceLE,Int.reduceLT,Int.reduceEq,reduceCtorEq,↓reduceIte,Bool.true_eq_false,Bool.false_eq_true,Bool.not_true,Bool.not_false,true_and,and_true,and_assoc,qaj,sub1,qdi,qdh,qdj,List.length_replicate,Nat.le_refl,false_implies,true_implies,ne_eq,not_true_eq_false,not_false_eq_true,decide_true,decide_false,decide_eq_true_eq,decide_eq_false_iff_not,Bool.not_eq_true',Bool.not_eq_false']
    repeat (refine And.intro (by omega) ?_)
    refine ⟨i + 1, hK _ (by omega) (by omega), Hd.same ?_⟩
    simp only [hx, ofS, List.map_cons, List.map_nil, Nat.reduceLT, qc6, qcz, qc0, reduceCtorEq, ↓reduceIte, Nat.reduceEqDiff, Int.cast_ofNat_Int, List.append_nil, List.cons_append, List.nil_append, qaf, and_true, true_and, Nat.zero_add, Nat.add_zero, Nat.reduceAdd, qc3, qc4, List.reduceReplicate]
  obtain rfl : i = 8 := by omega
  have c1 : ¬((8 : Nat) : Int) < 8 := by omega
  have hx : itr (ofS b) (0, 0) 8 = ofF b := rfl
  rw [hx]
  obtain ⟨h, hh⟩ : ∃ h, ofF b = h := ⟨_, rfl⟩
  rw [hh]
  simp only [c1,qdk,qdg,qaj,List.length_cons,List.length_nil,Nat.reduceAdd,Nat.le_refl,Nat.reduceLeDiff,Nat.reduceLT,true_and,and_true,↓qax,↓qay,↓qa0,↓qaz,↓qcy,↓qbj,↓qa1,↓qcr,↓qb3,↓qco,↓qcb,↓qck,↓qcl,↓qb4,↓qcj,↓qcp,↓qb5,↓qcm,↓qcn,↓qb6,↓qcc,↓qca,↓qb9,↓qb8,↓qb7,↓qa5,↓qbc,↓qa6,↓qbd,↓qa7,↓qbe,↓qa8,↓qbf,↓qa9,↓qbg,↓qba,↓qbh,↓qbb,↓qbi,↓qb2,↓qcq,↓qfq,↓qcu,↓qcv,↓qcw,↓qct,↓qcs,↓qbm,↓qbn,↓qb0,↓qbv,↓qbq,↓qbu,↓qbz,↓qbw,↓qby,↓qbx,↓qbr,↓qbp,↓qb1,↓qbs,↓qbt,↓qbo,↓qfd,↓qfc,↓qfh,↓qfj,↓qfi,↓qfb,↓qfa,↓qe7,↓qe8,↓qfg,↓qff,↓qfe,qdf,↓qe4,↓qe5,↓qe9,↓qdc,↓qda,↓qdb,↓qfl,↓qfm,↓qfn,↓qfk,qaa,↓qe6,↓qer,↓qes,↓qfp,↓qfo,↓qev,↓qdu,↓qd2,↓qej,↓qek,↓qe0,↓qe2,↓qdy,↓qdz,↓qd1,↓qd0,↓qd7,↓qe3,↓qd5,↓qew,↓qdx,↓qep,↓qex,↓qey,↓qez,↓qeb,↓qea,↓qec,↓qed,↓qef,↓qd9,↓qeg,↓qei,↓qeh,↓qdv,↓qdw,↓qd8,↓qaw,↓qd6,↓qeq,↓qem,↓qdt,↓qet,↓qen,↓qeo,↓qeu,↓qcd,↓qce,↓qcf,↓qcg,↓qch,↓qci,qdd,qde,qc1,qc2,↓qel,↓qee,qav,List.drop_zero,Nat.sub_zero,qc6,qcz,qc0,qdr,qat,qas,qaf,List.map_cons,List.map_nil,List.zip_cons_cons,List.zip_nil_right,List.zip_nil_left,qau,evs,evp,mkB,repB,blen,qae,qad,qac,qab,qc9,qc8,qdq,qds,qdo,qdp,qc5,qc7,qc3,qc4,↓qdm,↓qdl,↓qdn,↓qah,↓qag,↓qai,↓retQ,res,resAll,resOne,kill,apartOk,exp,injV,injB,pur,purs,purR,pursR,List.set_cons_zero,List.set_cons_succ,List.length_cons,List.length_nil,List.cons_append,List.nil_append,List.append_nil,List.append_assoc,List.length_append,List.reduceReplicate,Nat.reduceAdd,Nat.reduceMul,Nat.reduceSub,Nat.reduceEqDiff,Nat.reduceLT,Nat.zero_add,Nat.add_zero,Nat.mul_one,Int.reduceToNat,Int.toNat_natCast,Int.cast_ofNat_Int,Int.reduceLE,Int.reduceLT,Int.reduceEq,reduceCtorEq,↓reduceIte,Bool.true_eq_false,Bool.false_eq_true,Bool.not_true,Bool.not_false,true_and,and_true,and_assoc,qaj,sub1,qdi,qdh,qdj,List.length_replicate,Nat.le_refl,false_implies,true_implies,ne_eq,not_true_eq_false,not_false_eq_true,decide_true,decide_false,decide_eq_true_eq,decide_eq_false_iff_not,Bool.not_eq_true',Bool.not_eq_false']
  repeat (refine And.intro (by omega) ?_)
  simp only [out, outs, out1, pur, and_self]
def blkS (x y : Int) (s : List Int) (i : Nat) : List Int := (s.set i (Go.IntKind.u8.wrap (iShr .u64 x ((56 - 8 * i : Nat) : Int)))).set (8 + i) (Go.IntKind.u8.wrap (iShr .u64 y ((56 - 8 * i : Nat) : Int)))
def blkF (x y : Int) : List Int := itr (blkS x y) z16 8
def preHalf (ds : List D) : Prop := ∃ x y : Int, ds = [.v (.ints .u64 [x, y])]
def F40 : List D → Out
  | [.v (.ints _ [x, y])] => .one (.v (.ints .u8 (blkF x y)))
  | _ => bad
def s40 : Summ := sData [.v] preHalf F40
theorem w8_bd (x : Int) : 0 ≤ Go.IntKind.u8.wrap x ∧ Go.IntKind.u8.wrap x < 256 := by rw [wrap_u8]; omega
theorem blkS_ok {x y : Int} (n : Nat) : B16 (itr (blkS x y) z16 n) :=
  itr_inv (fun _ (s : List Int) => B16 s) ⟨rfl, fun x hx => by rw [(List.mem_replicate.1 hx).2]; decide⟩ (fun n s hs =>
    ⟨by simp [blkS, hs.1], (hs.2.set _ (w8_bd _).1 (w8_bd _).2).set _ (w8_bd _).1 (w8_bd _).2⟩) n
set_option maxHeartbeats 2000000 in
theorem ok40 {g : List Blk} [Ge gl g] : SumOK Try.prog g 40 s40 ∧ SumAbs s40 := by
  refine fsumA (l := []) mixed gl_plain rfl Try.func40 comp40 compR40 nt40 (by simp) fun ds ⟨x, y, hd⟩ hA => ?_
  subst hd
  have hF : F40 [.v (.ints .u64 [x, y])] = .one (.v (.ints .u8 (blkF x y))) := rfl
  have s2 : sub [x, y] 0 2 = [x, y] := rfl
  simp only [ir40,rs40,gl,hF,s2,qdk,qdg,qaj,List.length_cons,List.length_nil,Nat.reduceAdd,Nat.le_refl,Nat.reduceLeDiff,Nat.reduceLT,true_and,and_true,↓qax,↓qay,↓qa0,↓qaz,↓qcy,↓qbj,↓qa1,↓qcr,↓qb3,↓qco,↓qcb,↓qck,↓qcl,↓qb4,↓qcj,↓qcp,↓qb5,↓qcm,↓qcn,↓qb6,↓qcc,↓qca,↓qb9,↓qb8,↓qb7,↓qa5,↓qbc,↓qa6,↓qbd,↓qa7,↓qbe,↓qa8,↓qbf,↓qa9,↓qbg,↓qba,↓qbh,↓qbb,↓qbi,↓qb2,↓qcq,↓qfq,↓qcu,↓qcv,↓qcw,↓qct,↓qcs,↓qbm,↓qbn,↓qb0,↓qbv,↓qbq,↓qbu,↓qbz,↓qbw,↓qby,↓qbx,↓qbr,↓qbp,↓qb1,↓qbs,↓qbt,↓qbo,↓qfd,↓qfc,↓qfh,↓qfj,↓qfi,↓qfb,↓qfa,↓qe7,↓qe8,↓qfg,↓qff,↓qfe,qdf,↓qe4,↓qe5,↓qe9,↓qdc,↓qda,↓qdb,↓qfl,↓qfm,↓qfn,↓qfk,qaa,↓qe6,↓qer,↓qes,↓qfp,↓qfo,↓qev,↓qdu,↓qd2,↓qej,↓qek,↓qe0,↓qe2,↓qdy,↓qdz,↓qd1,↓qd0,↓qd7,↓qe3,↓qd5,↓qew,↓qdx,↓qep,↓qex,↓qey,↓qez,↓qeb,↓qea,↓qec,↓qed,↓qef,↓qd9,↓qeg,↓qei,↓qeh,↓qdv,↓qdw,↓qd8,↓qaw,↓qd6,↓qeq,↓qem,↓qdt,↓qet,↓qen,↓qeo,↓qeu,↓qcd,↓qce,↓qcf,↓qcg,↓qch,↓qci,qdd,qde,qc1,qc2,↓qel,↓qee,qav,List.drop_zero,Nat.sub_zero,qc6,qcz,qc0,qdr,qat,qas,qaf,List.map_cons,List.map_nil,List.zip_cons_cons,List.zip_nil_right,List.zip_nil_left,qau,evs,evp,mkB,repB,blen,qae,qad,qac,qab,qc9,qc8,qdq,qds,qdo,qdp,qc5,qc7,qc3,qc4,↓qdm,↓qdl,↓qdn,↓qah,↓qag,↓qai,↓retQ,res,resAll,resOne,kill,apartOk,exp,injV,injB,pur,purs,purR,pursR,List.set_cons_zero,List.set_cons_succ,List.length_cons,List.length_nil,List.cons_append,List.nil_append,List.append_nil,List.append_assoc,List.length_append,List.reduceReplicate,Nat.reduceAdd,Nat.reduceMul,Nat.reduceSub,Nat.reduceEqDiff,Nat.reduceLT,Nat.zero_add,Nat.add_zero,Nat.mul_one,Int.reduceToNat,Int.toNat_natCast,Int.cast_ofNat_Int,Int.reduceLE,Int.reduceLT,Int.reduceEq,reduceCtorEq,↓reduceIte,Bool.true_eq_false,Bool.false_eq_true,Bool.not_true,Bool.not_false,true_and,and_true,and_assoc,qaj,sub1,qdi,qdh,qdj,List.length_replicate,Nat.le_refl,false_implies,true_implies,ne_eq,not_true_eq_false,not_false_eq_true,decide_true,decide_false,decide_eq_true_eq,decide_eq_false_iff_not,Bool.not_eq_true',Bool.not_eq_false']
  refine awp_loopA (n := 29) hA [1, 2, 3, 5] (by decide +kernel) (fun i : Nat => [.ptr 4 0, .ptr 5 0, .ptr 6 0, .int .i64 i])
    (fun i => [.dead, .dead, .dead, .dead, .ints false .u64 [x, y], .ints false .u8 [0, 0, 0, 0, 0, 0, 0, 0, 0, 0, 0, 0, 0, 0, 0, 0], .ints false .u8 (itr (blkS x y) z16 i)]) (fun i => i ≤ 8) (fun i => 8 - i) 0 ?_ (by omega) ?_
  · refine Hd.same ?_
    simp only [itr, z16, List.map_cons, List.map_nil, Nat.reduceLT, qc6, qcz, qc0, reduceCtorEq, ↓reduceIte, Nat.reduceEqDiff, Int.cast_ofNat_Int, List.append_nil, List.cons_append, List.nil_append, qaf, and_true, true_and, Nat.zero_add, Nat.add_zero, Nat.reduceAdd, qc3, qc4, List.reduceReplicate]
  intro i hi K hK
  have hB := blkS_ok (x := x) (y := y) i
  by_cases hlt : i < 8
  · have c1 : (i : Int) < 8 := by omega
    have wi : Go.IntKind.i64.wrap ((i : Int) + 1) = ((i + 1 : Nat) : Int) := by rw [wrap_i64]; omega
    have w8 : Go.IntKind.i64.wrap (8 + (i : Int)) = ((8 + i : Nat) : Int) := by rw [wrap_i64]; omega
    have wm : Go.IntKind.i64.wrap (8 * (i : Int)) = ((8 * i : Nat) : Int) := by rw [wrap_i64]; omega
    have ws : Go.IntKind.i64.wrap (56 - ((8 * i : Nat) : Int)) = ((56 - 8 * i : Nat) : Int) := by rw [wrap_i64]; omega
    have hx : itr (blkS x y) z16 (i + 1) = blkS x y (itr (blkS x y) z16 i) i := rfl
    obtain ⟨s, hh⟩ : ∃ s, itr (blkS x y) z16 i = s := ⟨_, rfl⟩
    rw [hh] at hx hB
    rw [hh]
    have hl := hB.1
    have b1 : i < 16 := by omega
    have b2 : 8 + i < 16 := by omega
    simp only [c1,wi,w8,wm,ws,hl,b1,b2,getI2_0,getI2_1,List.length_set,qdk,qdg,qaj,List.length_cons,List.length_nil,Nat.reduceAdd,Nat.le_refl,Nat.reduceLeDiff,Nat.reduceLT,true_and,and_true,↓qax,↓qay,↓qa0,↓qaz,↓qcy,↓qbj,↓qa1,↓qcr,↓qb3,↓qco,↓qcb,↓qck,↓qcl,↓qb4,↓qcj,↓qcp,↓qb5,↓qcm,↓qcn,↓qb6,↓qcc,↓qca,↓qb9,↓qb8,↓qb7,↓qa5,↓qbc,↓qa6,↓qbd,↓qa7,↓qbe,↓qa8,↓qbf,↓qa9,↓qbg,↓qba,↓qbh,↓qbb,↓qbi,↓qb2,↓qcq,↓qfq,↓qcu,↓qcv,↓qcw,↓qct,↓qcs,↓qbm,↓qbn,↓qb0,↓qbv,↓qbq,↓qbu,↓qbz,↓qbw,↓qby,↓qbx,↓qbr,↓qbp,↓qb1,↓qbs,↓qbt,↓qbo,↓qfd,↓qfc,↓qfh,↓qfj,↓qfi,↓qfb,↓qfa,↓qe7,↓qe8,↓qfg,↓qff,↓qfe,qdf,↓qe4,↓qe5,↓qe9,↓qdc,↓qda,↓qdb,↓qfl,↓qfm,↓qfn,↓qfk,qaa,↓qe6,↓qer,↓qes,↓qfp,↓qfo,↓qev,↓qdu,↓qd2,↓qej,↓qek,↓qe0,↓qe2,↓qdy,↓qdz,↓qd1,↓qd0,↓qd7,↓qe3,↓qd5,↓qew,↓qdx,↓qep,↓qex,↓qey,↓qez,↓qeb,↓qea,↓qec,↓qed,↓qef,↓qd9,↓qeg,↓qei,↓qeh,↓qdv,↓qdw,↓qd8,↓qaw,↓qd6,↓qeq,↓qem,↓qdt,↓qet,↓qen,↓qeo,↓qeu,↓qcd,↓qce,↓qcf,↓qcg,↓qch,↓qci,qdd,qde,qc1,qc2,↓qel,↓qee,qav,List.drop_zero,Nat.sub_zero,qc6,qcz,qc0,qdr,qat,qas,qaf,List.map_cons,List.map_nil,List.zip_cons_cons,List.zip_nil_right,List.zip_nil_left,qau,evs,evp,mkB,repB,blen,qae,qad,qac,qab,qc9,qc8,qdq,qds,qdo,qdp,qc5,qc7,qc3,qc4,↓qdm,↓qdl,↓qdn,↓qah,↓qag,↓qai,↓retQ,res,resAll,resOne,kill,apartOk,exp,injV,injB,pur,purs,purR,pursR,List.set_cons_zero,List.set_cons_succ,List.length_cons,List.length_nil,List.cons_append,List.nil_append,List.append_nil,List.append_assoc,List.length_append,List.reduceReplicate,Nat.reduceAdd,Nat.reduceMul,Nat.reduceSub,Nat.reduceEqDiff,Nat.reduceLT,Nat.zero_add,Nat.add_zero,Nat.mul_one,Int.reduceToNat,Int.toNat_natCast,Int.cast_ofNat_Int,Int.reduceLE,Int.reduceLT,Int.reduceEq,reduceCtorEq,↓reduceIte,Bool.true_eq_false,Bool.false_eq_true,Bool.not_true,Bool.not_false,true_and,and_true,and_assoc,qaj,sub1,qdi,qdh,qdj,List.length_replicate,Nat.le_refl,false_implies,true_implies,ne_eq,not_true_eq_false,not_false_eq_true,decide_true,decide_false,decide_eq_true_eq,decide_eq_false_iff_not,Bool.not_eq_true',Bool.not_eq_false']
    repeat (refine And.intro (by omega) ?_)
    refine ⟨i + 1, hK _ (by omega) (by omega), Hd.same ?_⟩
    simp only [hx, blkS, List.map_cons, List.map_nil, Nat.reduceLT, qc6, qcz, qc0, reduceCtorEq, ↓reduceIte, Nat.reduceEqDiff, Int.cast_ofNat_Int, List.append_nil, List.cons_append, List.nil_append, qaf, and_true, true_and, Nat.zero_add, Nat.add_zero, Nat.reduceAdd, qc3, qc4, List.reduceReplicate]
  obtain rfl : i = 8 := by omega
  have c1 : ¬((8 : Nat) : Int) < 8 := by omega
  have hx : itr (blkS x y) z16 8 = blkF x y := rfl
  rw [hx] at hB ⊢
  obtain ⟨h, hh⟩ : ∃ h, blkF x y = h := ⟨_, rfl⟩
  rw [hh] at hB ⊢
  have hl := hB.1
  have sh : sub h 0 16 = h := qdk hl
  have ph : spl [0, 0, 0, 0, 0, 0, 0, 0, 0, 0, 0, 0, 0, 0, 0, 0] 0 h = h := qdg (by simp [hl])
  simp only [c1,hl,sh,ph,qdk,qdg,qaj,List.length_cons,List.length_nil,Nat.reduceAdd,Nat.le_refl,Nat.reduceLeDiff,Nat.reduceLT,true_and,and_true,↓qax,↓qay,↓qa0,↓qaz,↓qcy,↓qbj,↓qa1,↓qcr,↓qb3,↓qco,↓qcb,↓qck,↓qcl,↓qb4,↓qcj,↓qcp,↓qb5,↓qcm,↓qcn,↓qb6,↓qcc,↓qca,↓qb9,↓qb8,↓qb7,↓qa5,↓qbc,↓qa6,↓qbd,↓qa7,↓qbe,↓qa8,↓qbf,↓qa9,↓qbg,↓qba,↓qbh,↓qbb,↓qbi,↓qb2,↓qcq,↓qfq,↓qcu,↓qcv,↓qcw,↓qct,↓qcs,↓qbm,↓qbn,↓qb0,↓qbv,↓qbq,↓qbu,↓qbz,↓qbw,↓qby,↓qbx,↓qbr,↓qbp,↓qb1,↓qbs,↓qbt,↓qbo,↓qfd,↓qfc,↓qfh,↓qfj,↓qfi,↓qfb,↓qfa,↓qe7,↓qe8,↓qfg,↓qff,↓qfe,qdf,↓qe4,↓qe5,↓qe9,↓qdc,↓qda,↓qdb,↓qfl,↓qfm,↓qfn,↓qfk,qaa,↓qe6,↓qer,↓qes,↓qfp,↓qfo,↓qev,↓qdu,↓qd2,↓qej,↓qek,↓qe0,↓qe2,↓qdy,↓qdz,↓qd1,↓qd0,↓qd7,↓qe3,↓qd5,↓qew,↓qdx,↓qep,↓qex,↓qey,↓qez,↓qeb,↓qea,↓qec,↓qed,↓qef,↓qd9,↓qeg,↓qei,↓qeh,↓qdv,↓qdw,↓qd8,↓qaw,↓qd6,↓qeq,↓qem,↓qdt,↓qet,↓qen,↓qeo,↓qeu,↓qcd,↓qce,↓qcf,↓qcg,↓qch,↓qci,qdd,qde,qc1,qc2,↓qel,↓qee,qav,List.drop_zero,Nat.sub_zero,qc6,qcz,qc0,qdr,qat,qas,qaf,List.map_cons,List.map_nil,List.zip_cons_cons,List.zip_nil_right,List.zip_nil_left,qau,evs,evp,mkB,repB,blen,qae,qad,qac,qab,qc9,qc8,qdq,qds,qdo,qdp,qc5,qc7,qc3,qc4,↓qdm,↓qdl,↓qdn,↓qah,↓qag,↓qai,↓retQ,res,resAll,resOne,kill,apartOk,exp,injV,injB,pur,purs,purR,pursR,List.set_cons_zero,List.set_cons_succ,List.length_cons,List.length_nil,List.cons_append,List.nil_append,List.append_nil,List.append_assoc,List.length_append,List.reduceReplicate,Nat.reduceAdd,Nat.reduceMul,Nat.reduceSub,Nat.reduceEqDiff,Nat.reduceLT,Nat.zero_add,Nat.add_zero,Nat.mul_one,Int.reduceToNat,Int.toNat_natCast,Int.cast_ofNat_Int,Int.reduceLE,Int.reduceLT,Int.reduceEq,reduceCtorEq,↓reduceIte,Bool.true_eq_false,Bool.false_eq_true,Bool.not_true,Bool.not_false,true_and,and_true,and_assoc,qaj,sub1,qdi,qdh,qdj,List.length_replicate,Nat.le_refl,false_implies,true_implies,ne_eq,not_true_eq_false,not_false_eq_true,decide_true,decide_false,decide_eq_true_eq,decide_eq_false_iff_not,Bool.not_eq_true',Bool.not_eq_false']
  repeat (refine And.intro (by omega) ?_)
  simp only [out, outs, out1, pur, and_self]
/-! ### The product -/
def tmB (x y : Int) (i : Nat) : Int := bAnd .u64 (iShr .u64 (if 63 < i then y else x) ((63 - i % 64 : Nat) : Int)) 1
def tmS (x y : Int) (s : (Int × Int) × (Int × Int)) (i : Nat) : (Int × Int) × (Int × Int) :=
  let m := Go.IntKind.u64.wrap (0 - tmB x y i)
  let l := Go.IntKind.u64.wrap (0 - bAnd .u64 s.2.2 1)
  ((bXor .u64 s.1.1 (bAnd .u64 s.2.1 m), bXor .u64 s.1.2 (bAnd .u64 s.2.2 m)),
   (bXor .u64 (iShr .u64 s.2.1 1) (bAnd .u64 16212958658533785600 l), bOr .u64 (iShr .u64 s.2.2 1) (iShl .u64 s.2.1 63)))
def tmI (x y a b : Int) (n : Nat) : (Int × Int) × (Int × Int) := itr (tmS x y) ((0, 0), (a, b)) n
def timF (x y a b : Int) : Int × Int := (tmI x y a b 128).1
def preHalf2 (ds : List D) : Prop := ∃ x y a b : Int, ds = [.v (.ints .u64 [x, y]), .v (.ints .u64 [a, b])]
def F39 : List D → Out
  | [.v (.ints _ [x, y]), .v (.ints _ [a, b])] => .one (.v (.ints .u64 [(timF x y a b).1, (timF x y a b).2]))
  | _ => bad
def s39 : Summ := sData [.v, .v] preHalf2 F39
set_option maxHeartbeats 2000000 in
theorem ok39 {g : List Blk} [Ge gl g] : SumOK Try.prog g 39 s39 ∧ SumAbs s39 := by
  refine fsumA (l := []) mixed gl_plain rfl Try.func39 comp39 compR39 nt39 (by simp) fun ds ⟨x, y, a, b, hd⟩ hA => ?_
  subst hd
  have hF : F39 [.v (.ints .u64 [x, y]), .v (.ints .u64 [a, b])] = .one (.v (.ints .u64 [(timF x y a b).1, (timF x y a b).2])) := rfl
  have s2 : sub [x, y] 0 2 = [x, y] := rfl
  have s3 : sub [a, b] 0 2 = [a, b] := rfl
  simp only [ir39,rs39,gl,hF,s2,s3,qdk,qdg,qaj,List.length_cons,List.length_nil,Nat.reduceAdd,Nat.le_refl,Nat.reduceLeDiff,Nat.reduceLT,true_and,and_true,↓qax,↓qay,↓qa0,↓qaz,↓qcy,↓qbj,↓qa1,↓qcr,↓qb3,↓qco,↓qcb,↓qck,↓qcl,↓qb4,↓qcj,↓qcp,↓qb5,↓qcm,↓qcn,↓qb6,↓qcc,↓qca,↓qb9,↓qb8,↓qb7,↓qa5,↓qbc,↓qa6,↓qbd,↓qa7,↓qbe,↓qa8,↓qbf,↓qa9,↓qbg,↓qba,↓qbh,↓qbb,↓qbi,↓qb2,↓qcq,↓qfq,↓qcu,↓qcv,↓qcw,↓qct,↓qcs,↓qbm,↓qbn,↓qb0,↓qbv,↓qbq,↓qbu,↓qbz,↓qbw,↓qby,↓qbx,↓qbr,↓qbp,↓qb1,↓qbs,↓qbt,↓qbo,↓qfd,↓qfc,↓qfh,↓qfj,↓qfi,↓qfb,↓qfa,↓qe7,↓qe8,↓qfg,↓qff,↓qfe,qdf,↓qe4,↓qe5,↓qe9,↓qdc,↓qda,↓qdb,↓qfl,↓qfm,↓qfn,↓qfk,qaa,↓qe6,↓qer,↓qes,↓qfp,↓qfo,↓qev,↓qdu,↓qd2,↓qej,↓qek,↓qe0,↓qe2,↓qdy,↓qdz,↓qd1,↓qd0,↓qd7,↓qe3,↓qd5,↓qew,↓qdx,↓qep,↓qex,↓qey,↓qez,↓qeb,↓qea,↓qec,↓qed,↓qef,↓qd9,↓qeg,↓qei,↓qeh,↓qdv,↓qdw,↓qd8,↓qaw,↓qd6,↓qeq,↓qem,↓qdt,↓qet,↓qen,↓qeo,↓qeu,↓qcd,↓qce,↓qcf,↓qcg,↓qch,↓qci,qdd,qde,qc1,qc2,↓qel,↓qee,qav,List.drop_zero,Nat.sub_zero,qc6,qcz,qc0,qdr,qat,qas,qaf,List.map_cons,List.map_nil,List.zip_cons_cons,List.zip_nil_right,List.zip_nil_left,qau,evs,evp,mkB,repB,blen,qae,qad,qac,qab,qc9,qc8,qdq,qds,qdo,qdp,qc5,qc7,qc3,qc4,↓qdm,↓qdl,↓qdn,↓qah,↓qag,↓qai,↓retQ,res,resAll,resOne,kill,apartOk,exp,injV,injB,pur,purs,purR,pursR,List.set_cons_zero,List.set_cons_succ,List.length_cons,List.length_nil,List.cons_append,List.nil_append,List.append_nil,List.append_assoc,List.length_append,List.reduceReplicate,Nat.reduceAdd,Nat.reduceMul,Nat.reduceSub,Nat.reduceEqDiff,Nat.reduceLT,Nat.zero_add,Nat.add_zero,Nat.mul_one,Int.reduceToNat,Int.toNat_natCast,Int.cast_ofNat_Int,Int.reduceLE,Int.reduceLT,Int.reduceEq,reduceCtorEq,↓reduceIte,Bool.true_eq_false,Bool.false_eq_true,Bool.not_true,Bool.not_false,true_and,and_true,and_assoc,qaj,sub1,qdi,qdh,qdj,List.length_replicate,Nat.le_refl,false_implies,true_implies,ne_eq,not_true_eq_false,not_false_eq_true,decide_true,decide_false,decide_eq_true_eq,decide_eq_false_iff_not,Bool.not_eq_true',Bool.not_eq_false']
  refine awp_loopA (n := 67) hA [2, 3, 4, 5, 9] (by decide +kernel) (fun i : Nat => [.ptr 4 0, .ptr 5 0, .ptr 6 0, .ptr 7 0, .int .i64 i])
    (fun i => [.dead, .dead, .dead, .dead, .ints false .u64 [x, y], .ints false .u64 [(tmI x y a b i).2.1, (tmI x y a b i).2.2], .ints false .u64 [0, 0], .ints false .u64 [(tmI x y a b i).1.1, (tmI x y a b i).1.2]]) (fun i => i ≤ 128) (fun i => 128 - i) 0 ?_ (by omega) ?_
  · refine Hd.same ?_
    simp only [tmI, itr, List.map_cons, List.map_nil, Nat.reduceLT, qc6, qcz, qc0, reduceCtorEq, ↓reduceIte, Nat.reduceEqDiff, Int.cast_ofNat_Int, List.append_nil, List.cons_append, List.nil_append, qaf, and_true, true_and, Nat.zero_add, Nat.add_zero, Nat.reduceAdd, qc3, qc4, List.reduceReplicate]
  intro i hi K hK
  by_cases hlt : i < 128
  · have c1 : (i : Int) < 128 := by omega
    have wi : Go.IntKind.i64.wrap ((i : Int) + 1) = ((i + 1 : Nat) : Int) := by rw [wrap_i64]; omega
    have ws : Go.IntKind.i64.wrap (63 - ((i % 64 : Nat) : Int)) = ((63 - i % 64 : Nat) : Int) := by rw [wrap_i64]; omega
    have n64 : ¬ (64 : Int) = 0 := by decide
    have hx : tmI x y a b (i + 1) = tmS x y (tmI x y a b i) i := rfl
    obtain ⟨s, hh⟩ : ∃ s, tmI x y a b i = s := ⟨_, rfl⟩
    rw [hh] at hx
    rw [hh]
    by_cases h63 : 63 < i
    · have c2 : (63 : Int) < (i : Int) := by omega
      simp only [tmS, tmB, h63, if_true] at hx
      simp only [c1,c2,wi,ws,n64,tmod64,getI2_0,getI2_1,qdk,qdg,qaj,List.length_cons,List.length_nil,Nat.reduceAdd,Nat.le_refl,Nat.reduceLeDiff,Nat.reduceLT,true_and,and_true,↓qax,↓qay,↓qa0,↓qaz,↓qcy,↓qbj,↓qa1,↓qcr,↓qb3,↓qco,↓qcb,↓qck,↓qcl,↓qb4,↓qcj,↓qcp,↓qb5,↓qcm,↓qcn,↓qb6,↓qcc,↓qca,↓qb9,↓qb8,↓qb7,↓qa5,↓qbc,↓qa6,↓qbd,↓qa7,↓qbe,↓qa8,↓qbf,↓qa9,↓qbg,↓qba,↓qbh,↓qbb,↓qbi,↓qb2,↓qcq,↓qfq,↓qcu,↓qcv,↓qcw,↓qct,↓qcs,↓qbm,↓qbn,↓qb0,↓qbv,↓qbq,↓qbu,↓qbz,↓qbw,↓qby,↓qbx,↓qbr,↓qbp,↓qb1,↓qbs,↓qbt,↓qbo,↓qfd,↓qfc,↓qfh,↓qfj,↓qfi,↓qfb,↓qfa,↓qe7,↓qe8,↓qfg,↓qff,↓qfe,qdf,↓qe4,↓qe5,↓qe9,↓qdc,↓qda,↓qdb,↓qfl,↓qfm,↓qfn,↓qfk,qaa,↓qe6,↓qer,↓qes,↓qfp,↓qfo,↓qev,↓qdu,↓qd2,↓qej,↓qek,↓qe0,↓qe2,↓qdy,↓qdz,↓qd1,↓qd0,↓qd7,↓qe3,↓qd5,↓qew,↓qdx,↓qep,↓qex,↓qey,↓qez,↓qeb,↓qea,↓qec,↓qed,↓qef,↓qd9,↓qeg,↓qei,↓qeh,↓qdv,↓qdw,↓qd8,↓qaw,↓qd6,↓qeq,↓qem,↓qdt,↓qet,↓qen,↓qeo,↓qeu,↓qcd,↓qce,↓qcf,↓qcg,↓qch,↓qci,qdd,qde,qc1,qc2,↓qel,↓qee,qav,List.drop_zero,Nat.sub_zero,qc6,qcz,qc0,qdr,qat,qas,qaf,List.map_cons,List.map_nil,List.zip_cons_cons,List.zip_nil_right,List.zip_nil_left,qau,evs,evp,mkB,repB,blen,qae,qad,qac,qab,qc9,qc8,qdq,qds,qdo,qdp,qc5,qc7,qc3,qc4,↓qdm,↓qdl,↓qdn,↓qah,↓qag,↓qai,↓retQ,res,resAll,resOne,kill,apartOk,exp,injV,injB,pur,purs,purR,pursR,List.set_cons_zero,List.set_cons_succ,List.length_cons,List.length_nil,List.cons_append,List.nil_append,List.append_nil,List.append_assoc,List.length_append,List.reduceReplicate,Nat.reduceAdd,Nat.reduceMul,Nat.reduceSub,Nat.reduceEqDiff,Nat.reduceLT,Nat.zero_add,Nat.add_zero,Nat.mul_one,Int.reduceToNat,Int.toNat_natCast,Int.cast_ofNat_Int,Int.reduceLE,Int.reduceLT,Int.reduceEq,reduceCtorEq,↓reduceIte,Bool.true_eq_false,Bool.false_eq_true,Bool.not_true,Bool.not_false,true_and,and_true,and_assoc,qaj,sub1,qdi,qdh,qdj,List.length_replicate,Nat.le_refl,false_implies,true_implies,ne_eq,not_true_eq_false,not_false_eq_true,decide_true,decide_false,decide_eq_true_eq,decide_eq_false_iff_not,Bool.not_eq_true',Bool.not_eq_false']
      repeat (refine And.intro (by omega) ?_)
      refine ⟨i + 1, hK _ (by omega) (by omega), Hd.same ?_⟩
      simp only [hx, List.map_cons, List.map_nil, Nat.reduceLT, qc6, qcz, qc0, reduceCtorEq, ↓reduceIte, Nat.reduceEqDiff, Int.cast_ofNat_Int, List.append_nil, List.cons_append, List.nil_append, qaf, and_true, true_and, Nat.zero_add, Nat.add_zero, Nat.reduceAdd, qc3, qc4, List.reduceReplicate]
    · have c2 : ¬ (63 : Int) < (i : Int) := by omega
      simp only [tmS, tmB, h63, if_false] at hx
      simp only [c1,c2,wi,ws,n64,tmod64,getI2_0,getI2_1,qdk,qdg,qaj,List.length_cons,List.length_nil,Nat.reduceAdd,Nat.le_refl,Nat.reduceLeDiff,Nat.reduceLT,true_and,and_true,↓qax,↓qay,↓qa0,↓qaz,↓qcy,↓qbj,↓qa1,↓qcr,↓qb3,↓qco,↓qcb,↓qck,↓qcl,↓qb4,↓qcj,↓qcp,↓qb5,↓qcm,↓qcn,↓qb6,↓qcc,↓qca,↓qb9,↓qb8,↓qb7,↓qa5,↓qbc,↓qa6,↓qbd,↓qa7,↓qbe,↓qa8,↓qbf,↓qa9,↓qbg,↓qba,↓qbh,↓qbb,↓qbi,↓qb2,↓qcq,↓qfq,↓qcu,↓qcv,↓qcw,↓qct,↓qcs,↓qbm,↓qbn,↓qb0,↓qbv,↓qbq,↓qbu,↓qbz,↓qbw,↓qby,↓qbx,↓qbr,↓qbp,↓qb1,↓qbs,↓qbt,↓qbo,↓qfd,↓qfc,↓qfh,↓qfj,↓qfi,↓qfb,↓qfa,↓qe7,↓qe8,↓qfg,↓qff,↓qfe,qdf,↓qe4,↓qe5,↓qe9,↓qdc,↓qda,↓qdb,↓qfl,↓qfm,↓qfn,↓qfk,qaa,↓qe6,↓qer,↓qes,↓qfp,↓qfo,↓qev,↓qdu,↓qd2,↓qej,↓qek,↓qe0,↓qe2,↓qdy,↓qdz,↓qd1,↓qd0,↓qd7,↓qe3,↓qd5,↓qew,↓qdx,↓qep,↓qex,↓qey,↓qez,↓qeb,↓qea,↓qec,↓qed,↓qef,↓qd9,↓qeg,↓qei,↓qeh,↓qdv,↓qdw,↓qd8,↓qaw,↓qd6,↓qeq,↓qem,↓qdt,↓qet,↓qen,↓qeo,↓qeu,↓qcd,↓qce,↓qcf,↓qcg,↓qch,↓qci,qdd,qde,qc1,qc2,↓qel,↓qee,qav,List.drop_zero,Nat.sub_zero,qc6,qcz,qc0,qdr,qat,qas,qaf,List.map_cons,List.map_nil,List.zip_cons_cons,List.zip_nil_right,List.zip_nil_left,qau,evs,evp,mkB,repB,blen,qae,qad,qac,qab,qc9,qc8,qdq,qds,qdo,qdp,qc5,qc7,qc3,qc4,↓qdm,↓qdl,↓qdn,↓qah,↓qag,↓qai,↓retQ,res,resAll,resOne,kill,apartOk,exp,injV,injB,pur,purs,purR,pursR,List.set_cons_zero,List.set_cons_succ,List.length_cons,List.length_nil,List.cons_append,List.nil_append,List.append_nil,List.append_assoc,List.length_append,List.reduceReplicate,Nat.reduceAdd,Nat.reduceMul,Nat.reduceSub,Nat.reduceEqDiff,Nat.reduceLT,Nat.zero_add,Nat.add_zero,Nat.mul_one,Int.reduceToNat,Int.toNat_natCast,Int.cast_ofNat_Int,Int.reduceLE,Int.reduceLT,Int.reduceEq,reduceCtorEq,↓reduceIte,Bool.true_eq_false,Bool.false_eq_true,Bool.not_true,Bool.not_false,true_and,and_true,and_assoc,qaj,sub1,qdi,qdh,qdj,List.length_replicate,Nat.le_refl,false_implies,true_implies,ne_eq,not_true_eq_false,not_false_eq_true,decide_true,decide_false,decide_eq_true_eq,decide_eq_false_iff_not,Bool.not_eq_true',Bool.not_eq_false']
      repeat (refine And.intro (by omega) ?_)
      refine ⟨i + 1, hK _ (by omega) (by omega), Hd.same ?_⟩
      simp only [hx, List.map_cons, List.map_nil, Nat.reduceLT, qc6, qcz, qc0, reduceCtorEq, ↓reduceIte, Nat.reduceEqDiff, Int.cast_ofNat_Int, List.append_nil, List.cons_append, List.nil_append, qaf, and_true, true_and, Nat.zero_add, Nat.add_zero, Nat.reduceAdd, qc3, qc4, List.reduceReplicate]
  obtain rfl : i = 128 := by omega
  have c1 : ¬((128 : Nat) : Int) < 128 := by omega
  have hx : (tmI x y a b 128).1 = timF x y a b := rfl
  rw [hx]
  obtain ⟨h, hh⟩ : ∃ h, timF x y a b = h := ⟨_, rfl⟩
  rw [hh]
  simp only [c1,qdk,qdg,qaj,List.length_cons,List.length_nil,Nat.reduceAdd,Nat.le_refl,Nat.reduceLeDiff,Nat.reduceLT,true_and,and_true,↓qax,↓qay,↓qa0,↓qaz,↓qcy,↓qbj,↓qa1,↓qcr,↓qb3,↓qco,↓qcb,↓qck,↓qcl,↓qb4,↓qcj,↓qcp,↓qb5,↓qcm,↓qcn,↓qb6,↓qcc,↓qca,↓qb9,↓qb8,↓qb7,↓qa5,↓qbc,↓qa6,↓qbd,↓qa7,↓qbe,↓qa8,↓qbf,↓qa9,↓qbg,↓qba,↓qbh,↓qbb,↓qbi,↓qb2,↓qcq,↓qfq,↓qcu,↓qcv,↓qcw,↓qct,↓qcs,↓qbm,↓qbn,↓qb0,↓qbv,↓qbq,↓qbu,↓qbz,↓qbw,↓qby,↓qbx,↓qbr,↓qbp,↓qb1,↓qbs,↓qbt,↓qbo,↓qfd,↓qfc,↓qfh,↓qfj,↓qfi,↓qfb,↓qfa,↓qe7,↓qe8,↓qfg,↓qff,↓qfe,qdf,↓qe4,↓qe5,↓qe9,↓qdc,↓qda,↓qdb,↓qfl,↓qfm,↓qfn,↓qfk,qaa,↓qe6,↓qer,↓qes,↓qfp,↓qfo,↓qev,↓qdu,↓qd2,↓qej,↓qek,↓qe0,↓qe2,↓qdy,↓qdz,↓qd1,↓qd0,↓qd7,↓qe3,↓qd5,↓qew,↓qdx,↓qep,↓qex,↓qey,↓qez,↓qeb,↓qea,↓qec,↓qed,↓qef,↓qd9,↓qeg,↓qei,↓qeh,↓qdv,↓qdw,↓qd8,↓qaw,↓qd6,↓qeq,↓qem,↓qdt,↓qet,↓qen,↓qeo,↓qeu,↓qcd,↓qce,↓qcf,↓qcg,↓qch,↓qci,qdd,qde,qc1,qc2,↓qel,↓qee,qav,List.drop_zero,Nat.sub_zero,qc6,qcz,qc0,qdr,qat,qas,qaf,List.map_cons,List.map_nil,List.zip_cons_cons,List.zip_nil_right,List.zip_nil_left,qau,evs,evp,mkB,repB,blen,qae,qad,qac,qab,qc9,qc8,qdq,qds,qdo,qdp,qc5,qc7,qc3,qc4,↓qdm,↓qdl,↓qdn,↓qah,↓qag,↓qai,↓retQ,res,resAll,resOne,kill,apartOk,exp,injV,injB,pur,purs,purR,pursR,List.set_cons_zero,List.set_cons_succ,List.length_cons,List.length_nil,List.cons_append,List.nil_append,List.append_nil,List.append_assoc,List.length_append,List.reduceReplicate,Nat.reduceAdd,Nat.reduceMul,Nat.reduceSub,Nat.reduceEqDiff,Nat.reduceLT,Nat.zero_add,Nat.add_zero,Nat.mul_one,Int.reduceToNat,Int.toNat_natCast,Int.cast_ofNat_Int,Int.reduceLE,Int.reduceLT,Int.reduceEq,reduceCtorEq,↓reduceIte,Bool.true_eq_false,Bool.false_eq_true,Bool.not_true,Bool.not_false,true_and,and_true,and_assoc,qaj,sub1,qdi,qdh,qdj,List.length_replicate,Nat.le_refl,false_implies,true_implies,ne_eq,not_true_eq_false,not_false_eq_true,decide_true,decide_false,decide_eq_true_eq,decide_eq_false_iff_not,Bool.not_eq_true',Bool.not_eq_false']
  repeat (refine And.intro (by omega) ?_)
  simp only [out, outs, out1, pur, and_self]
/-! ### A block of a nonce and a number -/
def ctrS (n : Int) (s : List Int) (k : Nat) : List Int := s.set (12 + k) (Go.IntKind.u8.wrap (iShr .u32 n ((24 - 8 * k : Nat) : Int)))
def ctrF (c : List Int) (n : Int) : List Int := itr (ctrS n) (c ++ [0, 0, 0, 0]) 4
def B12 (b : List Int) : Prop := b.length = 12 ∧ Dig 256 b
def preCtr (ds : List D) : Prop := ∃ (c : List Int) (n : Int), ds = [.v (.ints .u8 c), .v (.int .u32 n)] ∧ B12 c
def F35 : List D → Out
  | [.v (.ints _ c), .v (.int _ n)] => .one (.v (.ints .u8 (ctrF c n)))
  | _ => bad
def s35 : Summ := sData [.v, .v] preCtr F35
theorem ctrS_ok {c : List Int} {n : Int} (h : B12 c) (m : Nat) : B16 (itr (ctrS n) (c ++ [0, 0, 0, 0]) m) :=
  itr_inv (fun _ (s : List Int) => B16 s) ⟨by simp [h.1], h.2.append (fun x hx => by simp at hx; omega)⟩ (fun n s hs => ⟨by simp [ctrS, hs.1], hs.2.set _ (w8_bd _).1 (w8_bd _).2⟩) m
set_option maxHeartbeats 2000000 in
theorem ok35 {g : List Blk} [Ge gl g] : SumOK Try.prog g 35 s35 ∧ SumAbs s35 := by
  refine fsumA (l := []) mixed gl_plain rfl Try.func35 comp35 compR35 nt35 (by simp) fun ds ⟨c, n, hd, hc⟩ hA => ?_
  subst hd
  have hcl := hc.1
  have hF : F35 [.v (.ints .u8 c), .v (.int .u32 n)] = .one (.v (.ints .u8 (ctrF c n))) := rfl
  have sc : sub c 0 12 = c := qdk hcl
  have pc : spl [0, 0, 0, 0, 0, 0, 0, 0, 0, 0, 0, 0, 0, 0, 0, 0] 0 c = c ++ [0, 0, 0, 0] := by simp [spl, hcl]
  have tc : c.take 12 = c := List.take_of_length_le (by omega)
  simp only [ir35,rs35,gl,hF,sc,hcl,pc,tc,show min 12 16 = 12 from rfl,qdk,qdg,qaj,List.length_cons,List.length_nil,Nat.reduceAdd,Nat.le_refl,Nat.reduceLeDiff,Nat.reduceLT,true_and,and_true,↓qax,↓qay,↓qa0,↓qaz,↓qcy,↓qbj,↓qa1,↓qcr,↓qb3,↓qco,↓qcb,↓qck,↓qcl,↓qb4,↓qcj,↓qcp,↓qb5,↓qcm,↓qcn,↓qb6,↓qcc,↓qca,↓qb9,↓qb8,↓qb7,↓qa5,↓qbc,↓qa6,↓qbd,↓qa7,↓qbe,↓qa8,↓qbf,↓qa9,↓qbg,↓qba,↓qbh,↓qbb,↓qbi,↓qb2,↓qcq,↓qfq,↓qcu,↓qcv,↓qcw,↓qct,↓qcs,↓qbm,↓qbn,↓qb0,↓qbv,↓qbq,↓qbu,↓qbz,↓qbw,↓qby,↓qbx,↓qbr,↓qbp,↓qb1,↓qbs,↓qbt,↓qbo,↓qfd,↓qfc,↓qfh,↓qfj,↓qfi,↓qfb,↓qfa,↓qe7,↓qe8,↓qfg,↓qff,↓qfe,qdf,↓qe4,↓qe5,↓qe9,↓qdc,↓qda,↓qdb,↓qfl,↓qfm,↓qfn,↓qfk,qaa,↓qe6,↓qer,↓qes,↓qfp,↓qfo,↓qev,↓qdu,↓qd2,↓qej,↓qek,↓qe0,↓qe2,↓qdy,↓qdz,↓qd1,↓qd0,↓qd7,↓qe3,↓qd5,↓qew,↓qdx,↓qep,↓qex,↓qey,↓qez,↓qeb,↓qea,↓qec,↓qed,↓qef,↓qd9,↓qeg,↓qei,↓qeh,↓qdv,↓qdw,↓qd8,↓qaw,↓qd6,↓qeq,↓qem,↓qdt,↓qet,↓qen,↓qeo,↓qeu,↓qcd,↓qce,↓qcf,↓qcg,↓qch,↓qci,qdd,qde,qc1,qc2,↓qel,↓qee,qav,List.drop_zero,Nat.sub_zero,qc6,qcz,qc0,qdr,qat,qas,qaf,List.map_cons,List.map_nil,List.zip_cons_cons,List.zip_nil_right,List.zip_nil_left,qau,evs,evp,mkB,repB,blen,qae,qad,qac,qab,qc9,qc8,qdq,qds,qdo,qdp,qc5,qc7,qc3,qc4,↓qdm,↓qdl,↓qdn,↓qah,↓qag,↓qai,↓retQ,res,resAll,resOne,kill,apartOk,exp,injV,injB,pur,purs,purR,pursR,List.set_cons_zero,List.set_cons_succ,List.length_cons,List.length_nil,List.cons_append,List.nil_append,List.append_nil,List.append_assoc,List.length_append,List.reduceReplicate,Nat.reduceAdd,Nat.reduceMul,Nat.reduceSub,Nat.reduceEqDiff,Nat.reduceLT,Nat.zero_add,Nat.add_zero,Nat.mul_one,Int.reduceToNat,Int.toNat_natCast,Int.cast_ofNat_Int,Int.reduceLE,Int.reduceLT,Int.reduceEq,reduceCtorEq,↓reduceIte,Bool.true_eq_false,Bool.false_eq_true,Bool.not_true,Bool.not_false,true_and,and_true,and_assoc,qaj,sub1,qdi,qdh,qdj,List.length_replicate,Nat.le_refl,false_implies,true_implies,ne_eq,not_true_eq_false,not_false_eq_true,decide_true,decide_false,decide_eq_true_eq,decide_eq_false_iff_not,Bool.not_eq_true',Bool.not_eq_false']
  refine awp_loopA (n := 24) hA [1, 4, 5, 10] (by decide +kernel) (fun i : Nat => [.int .u32 n, .ptr 5 0, .ptr 6 0, .int .i64 i])
    (fun i => [.dead, .dead, .dead, .dead, .ints false .u8 c, .ints false .u8 [0, 0, 0, 0, 0, 0, 0, 0, 0, 0, 0, 0, 0, 0, 0, 0], .ints false .u8 (itr (ctrS n) (c ++ [0, 0, 0, 0]) i)]) (fun i => i ≤ 4) (fun i => 4 - i) 0 ?_ (by omega) ?_
  · refine Hd.same ?_
    simp only [itr, List.map_cons, List.map_nil, Nat.reduceLT, qc6, qcz, qc0, reduceCtorEq, ↓reduceIte, Nat.reduceEqDiff, Int.cast_ofNat_Int, List.append_nil, List.cons_append, List.nil_append, qaf, and_true, true_and, Nat.zero_add, Nat.add_zero, Nat.reduceAdd, qc3, qc4, List.reduceReplicate]
  intro i hi K hK
  have hB := ctrS_ok (n := n) hc i
  by_cases hlt : i < 4
  · have c1 : (i : Int) < 4 := by omega
    have wi : Go.IntKind.i64.wrap ((i : Int) + 1) = ((i + 1 : Nat) : Int) := by rw [wrap_i64]; omega
    have w8 : Go.IntKind.i64.wrap (12 + (i : Int)) = ((12 + i : Nat) : Int) := by rw [wrap_i64]; omega
    have wm : Go.IntKind.i64.wrap (8 * (i : Int)) = ((8 * i : Nat) : Int) := by rw [wrap_i64]; omega
    have ws : Go.IntKind.i64.wrap (24 - ((8 * i : Nat) : Int)) = ((24 - 8 * i : Nat) : Int) := by rw [wrap_i64]; omega
    have hx : itr (ctrS n) (c ++ [0, 0, 0, 0]) (i + 1) = ctrS n (itr (ctrS n) (c ++ [0, 0, 0, 0]) i) i := rfl
    obtain ⟨s, hh⟩ : ∃ s, itr (ctrS n) (c ++ [0, 0, 0, 0]) i = s := ⟨_, rfl⟩
    rw [hh] at hx hB
    rw [hh]
    have hl := hB.1
    have b2 : 12 + i < 16 := by omega
    simp only [c1,wi,w8,wm,ws,hl,b2,List.length_set,qdk,qdg,qaj,List.length_cons,List.length_nil,Nat.reduceAdd,Nat.le_refl,Nat.reduceLeDiff,Nat.reduceLT,true_and,and_true,↓qax,↓qay,↓qa0,↓qaz,↓qcy,↓qbj,↓qa1,↓qcr,↓qb3,↓qco,↓qcb,↓qck,↓qcl,↓qb4,↓qcj,↓qcp,↓qb5,↓qcm,↓qcn,↓qb6,↓qcc,↓qca,↓qb9,↓qb8,↓qb7,↓qa5,↓qbc,↓qa6,↓qbd,↓qa7,↓qbe,↓qa8,↓qbf,↓qa9,↓qbg,↓qba,↓qbh,↓qbb,↓qbi,↓qb2,↓qcq,↓qfq,↓qcu,↓qcv,↓qcw,↓qct,↓qcs,↓qbm,↓qbn,↓qb0,↓qbv,↓qbq,↓qbu,↓qbz,↓qbw,↓qby,↓qbx,↓qbr,↓qbp,↓qb1,↓qbs,↓qbt,↓qbo,↓qfd,↓qfc,↓qfh,↓qfj,↓qfi,↓qfb,↓qfa,↓qe7,↓qe8,↓qfg,↓qff,↓qfe,qdf,↓qe4,↓qe5,↓qe9,↓qdc,↓qda,↓qdb,↓qfl,↓qfm,↓qfn,↓qfk,qaa,↓qe6,↓qer,↓qes,↓qfp,↓qfo,↓qev,↓qdu,↓qd2,↓qej,↓qek,↓qe0,↓qe2,↓qdy,↓qdz,↓qd1,↓qd0,↓qd7,↓qe3,↓qd5,↓qew,↓qdx,↓qep,↓qex,↓qey,↓qez,↓qeb,↓qea,↓qec,↓qed,↓qef,↓qd9,↓qeg,↓qei,↓qeh,↓qdv,↓qdw,↓qd8,↓qaw,↓qd6,↓qeq,↓qem,↓qdt,↓qet,↓qen,↓qeo,↓qeu,↓qcd,↓qce,↓qcf,↓qcg,↓qch,↓qci,qdd,qde,qc1,qc2,↓qel,↓qee,qav,List.drop_zero,Nat.sub_zero,qc6,qcz,qc0,qdr,qat,qas,qaf,List.map_cons,List.map_nil,List.zip_cons_cons,List.zip_nil_right,List.zip_nil_left,qau,evs,evp,mkB,repB,blen,qae,qad,qac,qab,qc9,qc8,qdq,qds,qdo,qdp,qc5,qc7,qc3,qc4,↓qdm,↓qdl,↓qdn,↓qah,↓qag,↓qai,↓retQ,res,resAll,resOne,kill,apartOk,exp,injV,injB,pur,purs,purR,pursR,List.set_cons_zero,List.set_cons_succ,List.length_cons,List.length_nil,List.cons_append,List.nil_append,List.append_nil,List.append_assoc,List.length_append,List.reduceReplicate,Nat.reduceAdd,Nat.reduceMul,Nat.reduceSub,Nat.reduceEqDiff,Nat.reduceLT,Nat.zero_add,Nat.add_zero,Nat.mul_one,Int.reduceToNat,Int.toNat_natCast,Int.cast_ofNat_Int,Int.reduceLE,Int.reduceLT,Int.reduceEq,reduceCtorEq,↓reduceIte,Bool.true_eq_false,Bool.false_eq_true,Bool.not_true,Bool.not_false,true_and,and_true,and_assoc,qaj,sub1,qdi,qdh,qdj,List.length_replicate,Nat.le_refl,false_implies,true_implies,ne_eq,not_true_eq_false,not_false_eq_true,decide_true,decide_false,decide_eq_true_eq,decide_eq_false_iff_not,Bool.not_eq_true',Bool.not_eq_false']
    repeat (refine And.intro (by omega) ?_)
    refine ⟨i + 1, hK _ (by omega) (by omega), Hd.same ?_⟩
    simp only [hx, ctrS, List.map_cons, List.map_nil, Nat.reduceLT, qc6, qcz, qc0, reduceCtorEq, ↓reduceIte, Nat.reduceEqDiff, Int.cast_ofNat_Int, List.append_nil, List.cons_append, List.nil_append, qaf, and_true, true_and, Nat.zero_add, Nat.add_zero, Nat.reduceAdd, qc3, qc4, List.reduceReplicate]
  obtain rfl : i = 4 := by omega
  have c1 : ¬((4 : Nat) : Int) < 4 := by omega
  have hx : itr (ctrS n) (c ++ [0, 0, 0, 0]) 4 = ctrF c n := rfl
  rw [hx] at hB ⊢
  obtain ⟨h, hh⟩ : ∃ h, ctrF c n = h := ⟨_, rfl⟩
  rw [hh] at hB ⊢
  have hl := hB.1
  have sh : sub h 0 16 = h := qdk hl
  have ph : spl [0, 0, 0, 0, 0, 0, 0, 0, 0, 0, 0, 0, 0, 0, 0, 0] 0 h = h := qdg (by simp [hl])
  simp only [c1,hl,sh,ph,qdk,qdg,qaj,List.length_cons,List.length_nil,Nat.reduceAdd,Nat.le_refl,Nat.reduceLeDiff,Nat.reduceLT,true_and,and_true,↓qax,↓qay,↓qa0,↓qaz,↓qcy,↓qbj,↓qa1,↓qcr,↓qb3,↓qco,↓qcb,↓qck,↓qcl,↓qb4,↓qcj,↓qcp,↓qb5,↓qcm,↓qcn,↓qb6,↓qcc,↓qca,↓qb9,↓qb8,↓qb7,↓qa5,↓qbc,↓qa6,↓qbd,↓qa7,↓qbe,↓qa8,↓qbf,↓qa9,↓qbg,↓qba,↓qbh,↓qbb,↓qbi,↓qb2,↓qcq,↓qfq,↓qcu,↓qcv,↓qcw,↓qct,↓qcs,↓qbm,↓qbn,↓qb0,↓qbv,↓qbq,↓qbu,↓qbz,↓qbw,↓qby,↓qbx,↓qbr,↓qbp,↓qb1,↓qbs,↓qbt,↓qbo,↓qfd,↓qfc,↓qfh,↓qfj,↓qfi,↓qfb,↓qfa,↓qe7,↓qe8,↓qfg,↓qff,↓qfe,qdf,↓qe4,↓qe5,↓qe9,↓qdc,↓qda,↓qdb,↓qfl,↓qfm,↓qfn,↓qfk,qaa,↓qe6,↓qer,↓qes,↓qfp,↓qfo,↓qev,↓qdu,↓qd2,↓qej,↓qek,↓qe0,↓qe2,↓qdy,↓qdz,↓qd1,↓qd0,↓qd7,↓qe3,↓qd5,↓qew,↓qdx,↓qep,↓qex,↓qey,↓qez,↓qeb,↓qea,↓qec,↓qed,↓qef,↓qd9,↓qeg,↓qei,↓qeh,↓qdv,↓qdw,↓qd8,↓qaw,↓qd6,↓qeq,↓qem,↓qdt,↓qet,↓qen,↓qeo,↓qeu,↓qcd,↓qce,↓qcf,↓qcg,↓qch,↓qci,qdd,qde,qc1,qc2,↓qel,↓qee,qav,List.drop_zero,Nat.sub_zero,qc6,qcz,qc0,qdr,qat,qas,qaf,List.map_cons,List.map_nil,List.zip_cons_cons,List.zip_nil_right,List.zip_nil_left,qau,evs,evp,mkB,repB,blen,qae,qad,qac,qab,qc9,qc8,qdq,qds,qdo,qdp,qc5,qc7,qc3,qc4,↓qdm,↓qdl,↓qdn,↓qah,↓qag,↓qai,↓retQ,res,resAll,resOne,kill,apartOk,exp,injV,injB,pur,purs,purR,pursR,List.set_cons_zero,List.set_cons_succ,List.length_cons,List.length_nil,List.cons_append,List.nil_append,List.append_nil,List.append_assoc,List.length_append,List.reduceReplicate,Nat.reduceAdd,Nat.reduceMul,Nat.reduceSub,Nat.reduceEqDiff,Nat.reduceLT,Nat.zero_add,Nat.add_zero,Nat.mul_one,Int.reduceToNat,Int.toNat_natCast,Int.cast_ofNat_Int,Int.reduceLE,Int.reduceLT,Int.reduceEq,reduceCtorEq,↓reduceIte,Bool.true_eq_false,Bool.false_eq_true,Bool.not_true,Bool.not_false,true_and,and_true,and_assoc,qaj,sub1,qdi,qdh,qdj,List.length_replicate,Nat.le_refl,false_implies,true_implies,ne_eq,not_true_eq_false,not_false_eq_true,decide_true,decide_false,decide_eq_true_eq,decide_eq_false_iff_not,Bool.not_eq_true',Bool.not_eq_false']
  repeat (refine And.intro (by omega) ?_)
  simp only [out, outs, out1, pur, and_self]
end Am
