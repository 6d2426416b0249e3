/-
Working texts: contracts of functions, and the numbers behind them.
-/
import Derived.Test.YtkchoojcficjgaaLdA
import Derived.Test.YtkchoojcficjgaaLdC
set_option linter.unusedSimpArgs false
set_option linter.unusedVariables false
set_option linter.unusedSectionVars false
set_option linter.unusedSimpArgs false
set_option linter.unusedVariables false
set_option maxRecDepth 20000
namespace Am
open Go.Proofs
/-! ### What two share -/
def lmul (k p : List Int) : List Int := dig 256 32 (shv k p)
theorem lmul_len (k p : List Int) : (lmul k p).length = 32 := qaj _ _ _
theorem lmul_key (k p : List Int) : Key (lmul k p) := key_dig32 _
def F50 : List D → Out
  | [.v (.ints _ k), .v (.ints _ p)] => .many [.v (.ints .u8 (lmul k p)), .v (.bool (!decide (lmul k p = List.replicate 32 0)))]
  | _ => bad
def s50 : Summ := sData [.v, .v] preKK F50
theorem Key.kk {k p : List Int} (h : Key k) (h' : Key p) : preKK [.v (.ints .u8 k), .v (.ints .u8 p)] := ⟨_, _, rfl, h, h'⟩
theorem ok50 {g : List Blk} [Ge gl g] : SumOK Try.prog g 50 s50 ∧ SumAbs s50 := by
  refine fsumA (l := [(51, s51)]) mixed gl_plain rfl Try.func50 comp50 compR50 nt50 (by simp only [List.mem_cons, List.not_mem_nil, or_false, forall_eq]; exact ok51) fun ds ⟨k, p, hd, hk, hp⟩ hA => ?_
  subst hd
  have hkl := hk.1
  have hpl := hp.1
  have sk : sub k 0 32 = k := qdc hkl
  have sp : sub p 0 32 = p := qdc hpl
  have p1 := hk.kk hp
  have hF : dig 256 32 (shv k p) = lmul k p := rfl
  obtain ⟨w, hw⟩ : ∃ w, lmul k p = w := ⟨_, rfl⟩
  have hwl : w.length = 32 := by rw [← hw]; exact lmul_len k p
  have sw : sub w 0 32 = w := qdc hwl
  have spw : spl [0, 0, 0, 0, 0, 0, 0, 0, 0, 0, 0, 0, 0, 0, 0, 0, 0, 0, 0, 0, 0, 0, 0, 0, 0, 0, 0, 0, 0, 0, 0, 0] 0 w = w := qc8 (by simp [hwl])
  simp only [s51]
  simp only [ir50,rs50,gl,F50,hkl,hpl,sk,sp,p1,hF,hw,hwl,sw,spw,s51,F51,qdc,qc8,qaj,List.length_cons,List.length_nil,Nat.reduceAdd,Nat.le_refl,Nat.reduceLeDiff,Nat.reduceLT,true_and,and_true,↓qax,↓qay,↓qa0,↓qaz,↓qcu,↓qbj,↓qa1,↓qcm,↓qb3,↓qcj,↓qcb,↓qcf,↓qcg,↓qb4,↓qce,↓qck,↓qb5,↓qch,↓qci,↓qb6,↓qcc,↓qca,↓qb9,↓qb8,↓qb7,↓qa5,↓qbc,↓qa6,↓qbd,↓qa7,↓qbe,↓qa8,↓qbf,↓qa9,↓qbg,↓qba,↓qbh,↓qbb,↓qbi,↓qb2,↓qcl,↓qfe,↓qcp,↓qcq,↓qcr,↓qco,↓qcn,↓qbm,↓qbn,↓qb0,↓qbv,↓qbq,↓qbu,↓qbz,↓qbw,↓qby,↓qbx,↓qbr,↓qbp,↓qb1,↓qbs,↓qbt,↓qbo,↓qe1,↓qe0,↓qe5,↓qe7,↓qe6,↓qez,↓qey,↓qev,↓qew,↓qe4,↓qe3,↓qe2,qc7,↓qes,↓qet,↓qex,↓qc6,↓qc4,↓qc5,↓qe9,↓qfa,↓qfb,↓qe8,qaa,↓qeu,↓qeh,↓qei,↓qfd,↓qfc,↓qek,↓qdm,↓qdu,↓qeb,↓qec,↓qep,↓qeq,↓qdq,↓qdr,↓qdt,↓qds,↓qdz,↓qer,↓qdx,↓qel,↓qdp,↓qef,↓qem,↓qen,↓qeo,↓qd3,↓qd2,↓qd4,↓qd5,↓qd7,↓qd1,↓qd8,↓qea,↓qd9,↓qdn,↓qdo,↓qd0,↓qaw,↓qdy,↓qeg,↓qee,↓qdl,↓qej,↓qed,↓qd6,qav,List.drop_zero,Nat.sub_zero,qc0,qcv,qcw,qdj,qat,qas,qaf,List.map_cons,List.map_nil,List.zip_cons_cons,List.zip_nil_right,List.zip_nil_left,qau,evs,evp,mkB,repB,blen,qae,qad,qac,qab,qc3,qc2,qdi,qdk,qdg,qdh,qcz,qc1,qcx,qcy,↓qde,↓qdd,↓qdf,↓qah,↓qag,↓qai,↓retQ,res,resAll,resOne,kill,apartOk,exp,injV,injB,pur,purs,purR,pursR,List.set_cons_zero,List.set_cons_succ,List.length_cons,List.length_nil,List.cons_append,List.nil_append,List.append_nil,List.append_assoc,List.length_append,List.reduceReplicate,Nat.reduceAdd,Nat.reduceMul,Nat.reduceSub,Nat.reduceEqDiff,Nat.reduceLT,Nat.zero_add,Nat.add_zero,Nat.mul_one,Int.reduceToNat,Int.toNat_natCast,Int.cast_ofNat_Int,Int.reduceLE,Int.reduceLT,Int.reduceEq,reduceCtorEq,↓reduceIte,Bool.true_eq_false,Bool.false_eq_true,Bool.not_true,Bool.not_false,true_and,and_true,and_assoc,qaj,sub1,qda,qc9,qdb,List.length_replicate,Nat.le_refl,false_implies,true_implies,ne_eq,not_true_eq_false,not_false_eq_true,decide_true,decide_false,decide_eq_true_eq,decide_eq_false_iff_not,Bool.not_eq_true',Bool.not_eq_false']
  repeat (refine And.intro (by omega) ?_)
  simp only [out, outs, out1, pur, and_self]
def F48 : List D → Out
  | _ => .one (.v (.bool true))
def pre48 (ds : List D) : Prop := ds = []
def s48 : Summ := sData [] pre48 F48
theorem aw1 : getI (lmul [9, 0, 0, 0, 0, 0, 0, 0, 0, 0, 0, 0, 0, 0, 0, 0, 0, 0, 0, 0, 0, 0, 0, 0, 0, 0, 0, 0, 0, 0, 0, 0] [9, 0, 0, 0, 0, 0, 0, 0, 0, 0, 0, 0, 0, 0, 0, 0, 0, 0, 0, 0, 0, 0, 0, 0, 0, 0, 0, 0, 0, 0, 0, 0]) 0 = 66 ∧ getI (lmul [9, 0, 0, 0, 0, 0, 0, 0, 0, 0, 0, 0, 0, 0, 0, 0, 0, 0, 0, 0, 0, 0, 0, 0, 0, 0, 0, 0, 0, 0, 0, 0] [9, 0, 0, 0, 0, 0, 0, 0, 0, 0, 0, 0, 0, 0, 0, 0, 0, 0, 0, 0, 0, 0, 0, 0, 0, 0, 0, 0, 0, 0, 0, 0]) 1 = 44 ∧ getI (lmul [9, 0, 0, 0, 0, 0, 0, 0, 0, 0, 0, 0, 0, 0, 0, 0, 0, 0, 0, 0, 0, 0, 0, 0, 0, 0, 0, 0, 0, 0, 0, 0] [9, 0, 0, 0, 0, 0, 0, 0, 0, 0, 0, 0, 0, 0, 0, 0, 0, 0, 0, 0, 0, 0, 0, 0, 0, 0, 0, 0, 0, 0, 0, 0]) 2 = 142 ∧ getI (lmul [9, 0, 0, 0, 0, 0, 0, 0, 0, 0, 0, 0, 0, 0, 0, 0, 0, 0, 0, 0, 0, 0, 0, 0, 0, 0, 0, 0, 0, 0, 0, 0] [9, 0, 0, 0, 0, 0, 0, 0, 0, 0, 0, 0, 0, 0, 0, 0, 0, 0, 0, 0, 0, 0, 0, 0, 0, 0, 0, 0, 0, 0, 0, 0]) 31 = 121 := by decide +kernel
theorem aw2 : lmul [7, 0, 0, 0, 0, 0, 0, 0, 0, 0, 0, 0, 0, 0, 0, 0, 0, 0, 0, 0, 0, 0, 0, 0, 0, 0, 0, 0, 0, 0, 0, 0] [0, 0, 0, 0, 0, 0, 0, 0, 0, 0, 0, 0, 0, 0, 0, 0, 0, 0, 0, 0, 0, 0, 0, 0, 0, 0, 0, 0, 0, 0, 0, 0] = [0, 0, 0, 0, 0, 0, 0, 0, 0, 0, 0, 0, 0, 0, 0, 0, 0, 0, 0, 0, 0, 0, 0, 0, 0, 0, 0, 0, 0, 0, 0, 0] := by decide +kernel
theorem key1 {n : Int} (h : 0 ≤ n ∧ n < 256) : Key [n, 0, 0, 0, 0, 0, 0, 0, 0, 0, 0, 0, 0, 0, 0, 0, 0, 0, 0, 0, 0, 0, 0, 0, 0, 0, 0, 0, 0, 0, 0, 0] := ⟨rfl, fun y hy => by
  simp only [List.mem_cons, List.not_mem_nil, or_false] at hy
  rcases hy with rfl | hy
  · exact h
  · have : y = 0 := by simpa using hy
    rw [this]; decide⟩
theorem ok48 {g : List Blk} [Ge gl g] : SumOK Try.prog g 48 s48 ∧ SumAbs s48 := by
  refine fsumA (l := [(51, s51), (50, s50)]) mixed gl_plain rfl Try.func48 comp48 compR48 nt48 (by simp only [List.mem_cons, List.not_mem_nil, or_false, forall_eq_or_imp, forall_eq]; exact ⟨ok51, ok50⟩) fun ds hd hA => ?_
  rw [hd]
  have k9 : Key [9, 0, 0, 0, 0, 0, 0, 0, 0, 0, 0, 0, 0, 0, 0, 0, 0, 0, 0, 0, 0, 0, 0, 0, 0, 0, 0, 0, 0, 0, 0, 0] := key1 (by decide)
  have k7 : Key [7, 0, 0, 0, 0, 0, 0, 0, 0, 0, 0, 0, 0, 0, 0, 0, 0, 0, 0, 0, 0, 0, 0, 0, 0, 0, 0, 0, 0, 0, 0, 0] := key1 (by decide)
  have k0 : Key [0, 0, 0, 0, 0, 0, 0, 0, 0, 0, 0, 0, 0, 0, 0, 0, 0, 0, 0, 0, 0, 0, 0, 0, 0, 0, 0, 0, 0, 0, 0, 0] := key1 (by decide)
  have p1 := k9.kk k9
  have p2 := k7.kk k0
  have hF : dig 256 32 (shv [9, 0, 0, 0, 0, 0, 0, 0, 0, 0, 0, 0, 0, 0, 0, 0, 0, 0, 0, 0, 0, 0, 0, 0, 0, 0, 0, 0, 0, 0, 0, 0] [9, 0, 0, 0, 0, 0, 0, 0, 0, 0, 0, 0, 0, 0, 0, 0, 0, 0, 0, 0, 0, 0, 0, 0, 0, 0, 0, 0, 0, 0, 0, 0]) = lmul [9, 0, 0, 0, 0, 0, 0, 0, 0, 0, 0, 0, 0, 0, 0, 0, 0, 0, 0, 0, 0, 0, 0, 0, 0, 0, 0, 0, 0, 0, 0, 0] [9, 0, 0, 0, 0, 0, 0, 0, 0, 0, 0, 0, 0, 0, 0, 0, 0, 0, 0, 0, 0, 0, 0, 0, 0, 0, 0, 0, 0, 0, 0, 0] := rfl
  obtain ⟨a1, a2, a3, a4⟩ := aw1
  obtain ⟨w, hw⟩ : ∃ w, lmul [9, 0, 0, 0, 0, 0, 0, 0, 0, 0, 0, 0, 0, 0, 0, 0, 0, 0, 0, 0, 0, 0, 0, 0, 0, 0, 0, 0, 0, 0, 0, 0] [9, 0, 0, 0, 0, 0, 0, 0, 0, 0, 0, 0, 0, 0, 0, 0, 0, 0, 0, 0, 0, 0, 0, 0, 0, 0, 0, 0, 0, 0, 0, 0] = w := ⟨_, rfl⟩
  have hwl : w.length = 32 := by rw [← hw]; exact lmul_len _ _
  have spw : spl [0, 0, 0, 0, 0, 0, 0, 0, 0, 0, 0, 0, 0, 0, 0, 0, 0, 0, 0, 0, 0, 0, 0, 0, 0, 0, 0, 0, 0, 0, 0, 0] 0 w = w := qc8 (by simp [hwl])
  have sz : spl [0, 0, 0, 0, 0, 0, 0, 0, 0, 0, 0, 0, 0, 0, 0, 0, 0, 0, 0, 0, 0, 0, 0, 0, 0, 0, 0, 0, 0, 0, 0, 0] 0 [0, 0, 0, 0, 0, 0, 0, 0, 0, 0, 0, 0, 0, 0, 0, 0, 0, 0, 0, 0, 0, 0, 0, 0, 0, 0, 0, 0, 0, 0, 0, 0] = [0, 0, 0, 0, 0, 0, 0, 0, 0, 0, 0, 0, 0, 0, 0, 0, 0, 0, 0, 0, 0, 0, 0, 0, 0, 0, 0, 0, 0, 0, 0, 0] := rfl
  have s0 : sub [0, 0, 0, 0, 0, 0, 0, 0, 0, 0, 0, 0, 0, 0, 0, 0, 0, 0, 0, 0, 0, 0, 0, 0, 0, 0, 0, 0, 0, 0, 0, 0] 0 32 = [0, 0, 0, 0, 0, 0, 0, 0, 0, 0, 0, 0, 0, 0, 0, 0, 0, 0, 0, 0, 0, 0, 0, 0, 0, 0, 0, 0, 0, 0, 0, 0] := rfl
  have r32 : List.replicate 32 (0 : Int) = [0, 0, 0, 0, 0, 0, 0, 0, 0, 0, 0, 0, 0, 0, 0, 0, 0, 0, 0, 0, 0, 0, 0, 0, 0, 0, 0, 0, 0, 0, 0, 0] := rfl
  have d0 : decide (lmul [7, 0, 0, 0, 0, 0, 0, 0, 0, 0, 0, 0, 0, 0, 0, 0, 0, 0, 0, 0, 0, 0, 0, 0, 0, 0, 0, 0, 0, 0, 0, 0] [0, 0, 0, 0, 0, 0, 0, 0, 0, 0, 0, 0, 0, 0, 0, 0, 0, 0, 0, 0, 0, 0, 0, 0, 0, 0, 0, 0, 0, 0, 0, 0] = List.replicate 32 0) = true := by rw [aw2]; rfl
  rw [hw] at a1 a2 a3 a4 hF
  simp only [s51, s50]
  simp only [ir48,rs48,gl,F48,p1,p2,hF,hwl,spw,a1,a2,a3,a4,d0,aw2,sz,s0,eq_self,s51,s50,F51,F50,qdc,qc8,qaj,List.length_cons,List.length_nil,Nat.reduceAdd,Nat.le_refl,Nat.reduceLeDiff,Nat.reduceLT,true_and,and_true,↓qax,↓qay,↓qa0,↓qaz,↓qcu,↓qbj,↓qa1,↓qcm,↓qb3,↓qcj,↓qcb,↓qcf,↓qcg,↓qb4,↓qce,↓qck,↓qb5,↓qch,↓qci,↓qb6,↓qcc,↓qca,↓qb9,↓qb8,↓qb7,↓qa5,↓qbc,↓qa6,↓qbd,↓qa7,↓qbe,↓qa8,↓qbf,↓qa9,↓qbg,↓qba,↓qbh,↓qbb,↓qbi,↓qb2,↓qcl,↓qfe,↓qcp,↓qcq,↓qcr,↓qco,↓qcn,↓qbm,↓qbn,↓qb0,↓qbv,↓qbq,↓qbu,↓qbz,↓qbw,↓qby,↓qbx,↓qbr,↓qbp,↓qb1,↓qbs,↓qbt,↓qbo,↓qe1,↓qe0,↓qe5,↓qe7,↓qe6,↓qez,↓qey,↓qev,↓qew,↓qe4,↓qe3,↓qe2,qc7,↓qes,↓qet,↓qex,↓qc6,↓qc4,↓qc5,↓qe9,↓qfa,↓qfb,↓qe8,qaa,↓qeu,↓qeh,↓qei,↓qfd,↓qfc,↓qek,↓qdm,↓qdu,↓qeb,↓qec,↓qep,↓qeq,↓qdq,↓qdr,↓qdt,↓qds,↓qdz,↓qer,↓qdx,↓qel,↓qdp,↓qef,↓qem,↓qen,↓qeo,↓qd3,↓qd2,↓qd4,↓qd5,↓qd7,↓qd1,↓qd8,↓qea,↓qd9,↓qdn,↓qdo,↓qd0,↓qaw,↓qdy,↓qeg,↓qee,↓qdl,↓qej,↓qed,↓qd6,qav,List.drop_zero,Nat.sub_zero,qc0,qcv,qcw,qdj,qat,qas,qaf,List.map_cons,List.map_nil,List.zip_cons_cons,List.zip_nil_right,List.zip_nil_left,qau,evs,evp,mkB,repB,blen,qae,qad,qac,qab,qc3,qc2,qdi,qdk,qdg,qdh,qcz,qc1,qcx,qcy,↓qde,↓qdd,↓qdf,↓qah,↓qag,↓qai,↓retQ,res,resAll,resOne,kill,apartOk,exp,injV,injB,pur,purs,purR,pursR,List.set_cons_zero,List.set_cons_succ,List.length_cons,List.length_nil,List.cons_append,List.nil_append,List.append_nil,List.append_assoc,List.length_append,List.reduceReplicate,Nat.reduceAdd,Nat.reduceMul,Nat.reduceSub,Nat.reduceEqDiff,Nat.reduceLT,Nat.zero_add,Nat.add_zero,Nat.mul_one,Int.reduceToNat,Int.toNat_natCast,Int.cast_ofNat_Int,Int.reduceLE,Int.reduceLT,Int.reduceEq,reduceCtorEq,↓reduceIte,Bool.true_eq_false,Bool.false_eq_true,Bool.not_true,Bool.not_false,true_and,and_true,and_assoc,qaj,sub1,qda,qc9,qdb,List.length_replicate,Nat.le_refl,false_implies,true_implies,ne_eq,not_true_eq_false,not_false_eq_true,decide_true,decide_false,decide_eq_true_eq,decide_eq_false_iff_not,Bool.not_eq_true',Bool.not_eq_false']
  repeat (refine And.intro (by omega) ?_)
  simp only [out, outs, out1, pur, and_self]
/-! ### LadderRuns -/
theorem lawLadderRuns : ∀ ds, preKK ds → Does Try.prog gl 12 (injV ds 4) (gl ++ injB true ds) (out (4 + (injB true ds).length) (FTrue ds)) := by
  refine fdoesA (l := [(48, s48), (49, s49), (50, s50), (51, s51), (52, s52), (53, s53)]) mixed gl_plain rfl Try.func12 comp12 compR12 nt12 (by simp only [List.mem_cons, List.not_mem_nil, or_false, forall_eq_or_imp, forall_eq]; exact ⟨ok48, ok49, ok50, ok51, ok52, ok53⟩) fun ds ⟨k, p, hd, hk, hp⟩ hA => ?_
  subst hd
  have hkl := hk.1
  have hpl := hp.1
  have sk : sub k 0 32 = k := qdc hkl
  have sp : sub p 0 32 = p := qdc hpl
  have p1 := hk.kk hp
  have p2 := hk.p
  have pA : pre48 [] := rfl
  have hF : dig 256 32 (shv k p) = lmul k p := rfl
  obtain ⟨w, hw⟩ : ∃ w, lmul k p = w := ⟨_, rfl⟩
  have hwl : w.length = 32 := by rw [← hw]; exact lmul_len _ _
  have sw : sub w 0 32 = w := qdc hwl
  have spw : spl [0, 0, 0, 0, 0, 0, 0, 0, 0, 0, 0, 0, 0, 0, 0, 0, 0, 0, 0, 0, 0, 0, 0, 0, 0, 0, 0, 0, 0, 0, 0, 0] 0 w = w := qc8 (by simp [hwl])
  have hcl := (ckl_key hk).1
  simp only [s48, s49, s50, s51, s52, s53]
  simp only [ir12,rs12,gl,FTrue,hkl,hpl,sk,sp,p1,p2,pA,hF,hw,hwl,sw,spw,hcl,eq_self,BEq.rfl,s48,s49,s50,s51,s52,s53,F48,F49,F50,F51,F52,F53,qdc,qc8,qaj,List.length_cons,List.length_nil,Nat.reduceAdd,Nat.le_refl,Nat.reduceLeDiff,Nat.reduceLT,true_and,and_true,↓qax,↓qay,↓qa0,↓qaz,↓qcu,↓qbj,↓qa1,↓qcm,↓qb3,↓qcj,↓qcb,↓qcf,↓qcg,↓qb4,↓qce,↓qck,↓qb5,↓qch,↓qci,↓qb6,↓qcc,↓qca,↓qb9,↓qb8,↓qb7,↓qa5,↓qbc,↓qa6,↓qbd,↓qa7,↓qbe,↓qa8,↓qbf,↓qa9,↓qbg,↓qba,↓qbh,↓qbb,↓qbi,↓qb2,↓qcl,↓qfe,↓qcp,↓qcq,↓qcr,↓qco,↓qcn,↓qbm,↓qbn,↓qb0,↓qbv,↓qbq,↓qbu,↓qbz,↓qbw,↓qby,↓qbx,↓qbr,↓qbp,↓qb1,↓qbs,↓qbt,↓qbo,↓qe1,↓qe0,↓qe5,↓qe7,↓qe6,↓qez,↓qey,↓qev,↓qew,↓qe4,↓qe3,↓qe2,qc7,↓qes,↓qet,↓qex,↓qc6,↓qc4,↓qc5,↓qe9,↓qfa,↓qfb,↓qe8,qaa,↓qeu,↓qeh,↓qei,↓qfd,↓qfc,↓qek,↓qdm,↓qdu,↓qeb,↓qec,↓qep,↓qeq,↓qdq,↓qdr,↓qdt,↓qds,↓qdz,↓qer,↓qdx,↓qel,↓qdp,↓qef,↓qem,↓qen,↓qeo,↓qd3,↓qd2,↓qd4,↓qd5,↓qd7,↓qd1,↓qd8,↓qea,↓qd9,↓qdn,↓qdo,↓qd0,↓qaw,↓qdy,↓qeg,↓qee,↓qdl,↓qej,↓qed,↓qd6,qav,List.drop_zero,Nat.sub_zero,qc0,qcv,qcw,qdj,qat,qas,qaf,List.map_cons,List.map_nil,List.zip_cons_cons,List.zip_nil_right,List.zip_nil_left,qau,evs,evp,mkB,repB,blen,qae,qad,qac,qab,qc3,qc2,qdi,qdk,qdg,qdh,qcz,qc1,qcx,qcy,↓qde,↓qdd,↓qdf,↓qah,↓qag,↓qai,↓retQ,res,resAll,resOne,kill,apartOk,exp,injV,injB,pur,purs,purR,pursR,List.set_cons_zero,List.set_cons_succ,List.length_cons,List.length_nil,List.cons_append,List.nil_append,List.append_nil,List.append_assoc,List.length_append,List.reduceReplicate,Nat.reduceAdd,Nat.reduceMul,Nat.reduceSub,Nat.reduceEqDiff,Nat.reduceLT,Nat.zero_add,Nat.add_zero,Nat.mul_one,Int.reduceToNat,Int.toNat_natCast,Int.cast_ofNat_Int,Int.reduceLE,Int.reduceLT,Int.reduceEq,reduceCtorEq,↓reduceIte,Bool.true_eq_false,Bool.false_eq_true,Bool.not_true,Bool.not_false,true_and,and_true,and_assoc,qaj,sub1,qda,qc9,qdb,List.length_replicate,Nat.le_refl,false_implies,true_implies,ne_eq,not_true_eq_false,not_false_eq_true,decide_true,decide_false,decide_eq_true_eq,decide_eq_false_iff_not,Bool.not_eq_true',Bool.not_eq_false']
  repeat (refine And.intro (by omega) ?_)
  simp only [out, outs, out1, pur, and_self]
/-! ### LadderBits -/
def preKKB (ds : List D) : Prop := ∃ (k p : List Int) (b : Int), ds = [.v (.ints .u8 k), .v (.ints .u8 p), .v (.int .u8 b)] ∧ Key k ∧ Key p ∧ (0 ≤ b ∧ b < 256)
theorem x7 {x b : Int} (hx : 0 ≤ x ∧ x < 256) (hb : 0 ≤ b ∧ b < 256) : (0 ≤ bXor .u8 x (bAnd .u8 b 7) ∧ bXor .u8 x (bAnd .u8 b 7) < 256) ∧ bXor .u8 x (bAnd .u8 b 7) - bXor .u8 x (bAnd .u8 b 7) % 8 = x - x % 8 := by
  have e : bAnd .u8 b 7 = b % 8 := bAnd_mask .u8 3 b hb.1 (by simpa [Go.IntKind.bits] using hb.2) (by decide) rfl
  rw [e]
  have h : ∀ n : Nat, n < 256 → ∀ m : Nat, m < 8 → bXor .u8 (n : Int) (m : Int) - bXor .u8 (n : Int) (m : Int) % 8 = (n : Int) - (n : Int) % 8 := by decide +kernel
  obtain ⟨n, rfl⟩ := Int.eq_ofNat_of_zero_le hx.1
  obtain ⟨m, hm⟩ := Int.eq_ofNat_of_zero_le (show 0 ≤ b % 8 by omega)
  rw [hm]
  exact ⟨by unfold bXor; rw [wrap_u8]; omega, h n (by omega) m (by omega)⟩
theorem x192 {x b : Int} (hx : 0 ≤ x ∧ x < 256) (hb : 0 ≤ b ∧ b < 256) : (0 ≤ bXor .u8 x (bAnd .u8 b 192) ∧ bXor .u8 x (bAnd .u8 b 192) < 256) ∧ bXor .u8 x (bAnd .u8 b 192) % 64 = x % 64 := by
  have e : bAnd .u8 b 192 ∈ ([0, 64, 128, 192] : List Int) := bits8 (fun b => bAnd .u8 b 192 ∈ ([0, 64, 128, 192] : List Int)) (by decide +kernel) hb
  have h : ∀ m ∈ ([0, 64, 128, 192] : List Int), ∀ n : Nat, n < 256 → bXor .u8 (n : Int) m % 64 = (n : Int) % 64 := by decide +kernel
  obtain ⟨n, rfl⟩ := Int.eq_ofNat_of_zero_le hx.1
  exact ⟨by unfold bXor; rw [wrap_u8]; omega, h _ e n (by omega)⟩
theorem x128 {x b : Int} (hx : 0 ≤ x ∧ x < 256) (hb : 0 ≤ b ∧ b < 256) : (0 ≤ bXor .u8 x (bAnd .u8 (iShl .u8 b 2) 128) ∧ bXor .u8 x (bAnd .u8 (iShl .u8 b 2) 128) < 256) ∧ bXor .u8 x (bAnd .u8 (iShl .u8 b 2) 128) % 128 = x % 128 := by
  have e : bAnd .u8 (iShl .u8 b 2) 128 ∈ ([0, 128] : List Int) := bits8 (fun b => bAnd .u8 (iShl .u8 b 2) 128 ∈ ([0, 128] : List Int)) (by decide +kernel) hb
  have h : ∀ m ∈ ([0, 128] : List Int), ∀ n : Nat, n < 256 → bXor .u8 (n : Int) m % 128 = (n : Int) % 128 := by decide +kernel
  obtain ⟨n, rfl⟩ := Int.eq_ofNat_of_zero_le hx.1
  exact ⟨by unfold bXor; rw [wrap_u8]; omega, h _ e n (by omega)⟩
theorem lawLadderBits : ∀ ds, preKKB ds → Does Try.prog gl 13 (injV ds 4) (gl ++ injB true ds) (out (4 + (injB true ds).length) (FTrue ds)) := by
  refine fdoesA (l := [(48, s48), (51, s51)]) mixed gl_plain rfl Try.func13 comp13 compR13 nt13 (by simp only [List.mem_cons, List.not_mem_nil, or_false, forall_eq_or_imp, forall_eq]; exact ⟨ok48, ok51⟩) fun ds ⟨k, p, b, hd, hk, hp, hb⟩ hA => ?_
  subst hd
  have hkl := hk.1
  have hpl := hp.1
  have sk : sub k 0 32 = k := qdc hkl
  have sp : sub p 0 32 = p := qdc hpl
  have spk : spl [0, 0, 0, 0, 0, 0, 0, 0, 0, 0, 0, 0, 0, 0, 0, 0, 0, 0, 0, 0, 0, 0, 0, 0, 0, 0, 0, 0, 0, 0, 0, 0] 0 k = k := qc8 (by simp [hkl])
  have spp : spl [0, 0, 0, 0, 0, 0, 0, 0, 0, 0, 0, 0, 0, 0, 0, 0, 0, 0, 0, 0, 0, 0, 0, 0, 0, 0, 0, 0, 0, 0, 0, 0] 0 p = p := qc8 (by simp [hpl])
  have y0 := x7 (hk.2.all (by decide) 0) hb
  have y1 := x192 (hk.2.all (by decide) 31) hb
  have y2 := x128 (hp.2.all (by decide) 31) hb
  obtain ⟨v0, hv0⟩ : ∃ v, bXor .u8 (getI k 0) (bAnd .u8 b 7) = v := ⟨_, rfl⟩
  obtain ⟨v1, hv1⟩ : ∃ v, bXor .u8 (getI k 31) (bAnd .u8 b 192) = v := ⟨_, rfl⟩
  obtain ⟨v2, hv2⟩ : ∃ v, bXor .u8 (getI p 31) (bAnd .u8 (iShl .u8 b 2) 128) = v := ⟨_, rfl⟩
  rw [hv0] at y0
  rw [hv1] at y1
  rw [hv2] at y2
  have g31 : getI (k.set 0 v0) 31 = getI k 31 := by rw [getI_set _ _ _ _ (by omega), if_neg (by decide)]
  obtain ⟨hp2, hpv⟩ := kv_low hp y2.1 y2.2
  have hk2 : Key ((k.set 0 v0).set 31 v1) := ⟨by simp [hkl], (hk.2.set _ y0.1.1 y0.1.2).set _ y1.1.1 y1.1.2⟩
  have hck : ckl ((k.set 0 v0).set 31 v1) = ckl k := by
    have e0 : getI ((k.set 0 v0).set 31 v1) 0 = v0 := by rw [getI_set _ _ _ _ (by simp; omega), if_neg (by decide), getI_set _ _ _ _ (by omega), if_pos rfl]
    have e1 : getI ((k.set 0 v0).set 31 v1) 31 = v1 := by rw [getI_set _ _ _ _ (by simp; omega), if_pos rfl]
    rw [ckl, ckl, e0, e1, y0.2, y1.2]
    refine getI_ext (by simp) fun j hj => ?_
    simp only [List.length_set] at hj
    have ll : ∀ (l : List Int) (i : Nat) (v : Int), (l.set i v).length = l.length := fun l i v => List.length_set
    rw [getI_set _ _ _ _ (by simp only [ll]; omega), getI_set _ _ _ _ (by simp only [ll]; omega), getI_set _ _ _ _ (by simp only [ll]; omega), getI_set _ _ _ _ (by omega), getI_set _ _ _ _ (by simp only [ll]; omega), getI_set _ _ _ _ (by omega)]
    split
    · rfl
    · split
      · rfl
      · rfl
  have hl : lmul ((k.set 0 v0).set 31 v1) (p.set 31 v2) = lmul k p := by
    unfold lmul shv; rw [hck, hpv]
  obtain ⟨k', hk'⟩ : ∃ k', (k.set 0 v0).set 31 v1 = k' := ⟨_, rfl⟩
  obtain ⟨p', hp'⟩ : ∃ p', p.set 31 v2 = p' := ⟨_, rfl⟩
  rw [hk'] at hk2 hl
  rw [hp'] at hp2 hl
  have hkl' := hk2.1
  have hpl' := hp2.1
  have sk' : sub k' 0 32 = k' := qdc hkl'
  have sp' : sub p' 0 32 = p' := qdc hpl'
  have p1 := hk.kk hp
  have p2 := hk2.kk hp2
  have pA : pre48 [] := rfl
  have hF : ∀ k p, dig 256 32 (shv k p) = lmul k p := fun _ _ => rfl
  have hll := lmul_len k p
  simp only [s48, s51]
  simp only [ir13,rs13,gl,FTrue,hkl,hpl,sk,sp,spk,spp,hv0,hv1,hv2,g31,hk',hp',hkl',hpl',sk',sp',p1,p2,pA,hF,hl,hll,List.length_set,eq_self,s48,s51,F48,F51,qdc,qc8,qaj,List.length_cons,List.length_nil,Nat.reduceAdd,Nat.le_refl,Nat.reduceLeDiff,Nat.reduceLT,true_and,and_true,↓qax,↓qay,↓qa0,↓qaz,↓qcu,↓qbj,↓qa1,↓qcm,↓qb3,↓qcj,↓qcb,↓qcf,↓qcg,↓qb4,↓qce,↓qck,↓qb5,↓qch,↓qci,↓qb6,↓qcc,↓qca,↓qb9,↓qb8,↓qb7,↓qa5,↓qbc,↓qa6,↓qbd,↓qa7,↓qbe,↓qa8,↓qbf,↓qa9,↓qbg,↓qba,↓qbh,↓qbb,↓qbi,↓qb2,↓qcl,↓qfe,↓qcp,↓qcq,↓qcr,↓qco,↓qcn,↓qbm,↓qbn,↓qb0,↓qbv,↓qbq,↓qbu,↓qbz,↓qbw,↓qby,↓qbx,↓qbr,↓qbp,↓qb1,↓qbs,↓qbt,↓qbo,↓qe1,↓qe0,↓qe5,↓qe7,↓qe6,↓qez,↓qey,↓qev,↓qew,↓qe4,↓qe3,↓qe2,qc7,↓qes,↓qet,↓qex,↓qc6,↓qc4,↓qc5,↓qe9,↓qfa,↓qfb,↓qe8,qaa,↓qeu,↓qeh,↓qei,↓qfd,↓qfc,↓qek,↓qdm,↓qdu,↓qeb,↓qec,↓qep,↓qeq,↓qdq,↓qdr,↓qdt,↓qds,↓qdz,↓qer,↓qdx,↓qel,↓qdp,↓qef,↓qem,↓qen,↓qeo,↓qd3,↓qd2,↓qd4,↓qd5,↓qd7,↓qd1,↓qd8,↓qea,↓qd9,↓qdn,↓qdo,↓qd0,↓qaw,↓qdy,↓qeg,↓qee,↓qdl,↓qej,↓qed,↓qd6,qav,List.drop_zero,Nat.sub_zero,qc0,qcv,qcw,qdj,qat,qas,qaf,List.map_cons,List.map_nil,List.zip_cons_cons,List.zip_nil_right,List.zip_nil_left,qau,evs,evp,mkB,repB,blen,qae,qad,qac,qab,qc3,qc2,qdi,qdk,qdg,qdh,qcz,qc1,qcx,qcy,↓qde,↓qdd,↓qdf,↓qah,↓qag,↓qai,↓retQ,res,resAll,resOne,kill,apartOk,exp,injV,injB,pur,purs,purR,pursR,List.set_cons_zero,List.set_cons_succ,List.length_cons,List.length_nil,List.cons_append,List.nil_append,List.append_nil,List.append_assoc,List.length_append,List.reduceReplicate,Nat.reduceAdd,Nat.reduceMul,Nat.reduceSub,Nat.reduceEqDiff,Nat.reduceLT,Nat.zero_add,Nat.add_zero,Nat.mul_one,Int.reduceToNat,Int.toNat_natCast,Int.cast_ofNat_Int,Int.reduceLE,Int.reduceLT,Int.reduceEq,reduceCtorEq,↓reduceIte,Bool.true_eq_false,Bool.false_eq_true,Bool.not_true,Bool.not_false,true_and,and_true,and_assoc,qaj,sub1,qda,qc9,qdb,List.length_replicate,Nat.le_refl,false_implies,true_implies,ne_eq,not_true_eq_false,not_false_eq_true,decide_true,decide_false,decide_eq_true_eq,decide_eq_false_iff_not,Bool.not_eq_true',Bool.not_eq_false']
  repeat (refine And.intro (by omega) ?_)
  simp only [out, outs, out1, pur, and_self]
end Am
