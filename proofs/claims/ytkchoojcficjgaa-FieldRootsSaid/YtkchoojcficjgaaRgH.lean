/-
Working texts: contracts of functions, and the numbers behind them.
-/
import Derived.Test.YtkchoojcficjgaaRgG
import Derived.Test.YtkchoojcficjgaaFiM
set_option linter.unusedSimpArgs false
set_option linter.unusedVariables false
set_option linter.unusedSectionVars false
set_option linter.unusedSimpArgs false
set_option linter.unusedVariables false
set_option maxRecDepth 20000
namespace Am
open Go.Proofs
/-! ### The reference's sums, products, powers modulo the prime -/
def rmul (a b : List Int) : List Int := foldL (dig 65536 (a.length + b.length) (val 65536 a * val 65536 b))
def radd (a b : List Int) : List Int := foldL (dig 65536 (max a.length b.length + 1) (val 65536 a + val 65536 b))
def rsub (a b : List Int) : List Int := foldL (dig 65536 (max a.length 16 + 1) (val 65536 a + Pp - val 65536 b))
def preLL (ds : List D) : Prop := ∃ a b : List Int, ds = [.s .u32 a, .s .u32 b] ∧ Dig 65536 a ∧ Dig 65536 b ∧ a.length ≤ 20000 ∧ b.length ≤ 20000
theorem fold_len (a : List Int) {n : Nat} (h : a.length = n) : (foldL a).length = (foldL a).length := rfl
theorem pre_fold {n : Nat} (x : Int) (hn : n ≤ 60000) : preFold [.s 1 n .u32 (dig 65536 n x)] := ⟨_, by rw [qaj], dig_dig (by decide) _ _, by rw [qaj]; exact hn⟩
def F44 : List D → Out
  | [.s _ a, .s _ b] => .one (.s .u32 (rmul a b))
  | _ => bad
def s44 : Summ := sData [.s .u32, .s .u32] preLL F44
theorem c_fold {n m : Nat} (a : List Int) : F75 [.s n m .u32 a] = ([], .one (.s 1 (foldL a).length .u32 (foldL a))) := rfl
theorem ok44 {g : List Blk} [Ge gl g] : SumOK Try.prog g 44 s44 ∧ SumAbs s44 := by
  refine fsumA (l := [(81, s81), (75, s75)]) mixed gl_plain rfl Try.func44 comp44 compR44 nt44 (by simp only [List.mem_cons, List.not_mem_nil, or_false, forall_eq_or_imp, forall_eq]; exact ⟨ok81, ok75⟩) fun ds ⟨a, b, hd, ha, hb, hal, hbl⟩ hA => ?_
  subst hd
  have pt : pre81 [.s .u32 a, .s .u32 b] := ⟨_, _, rfl, ha, hb, by omega, by omega⟩
  have pf : preFold [.s 1 (a.length + b.length) .u32 (dig 65536 (a.length + b.length) (val 65536 a * val 65536 b))] := pre_fold _ (by omega)
  have hF : foldL (dig 65536 (a.length + b.length) (val 65536 a * val 65536 b)) = rmul a b := rfl
  have sa := qc8 a
  have sb := qc8 b
  have d0 : ∀ xs : List Int, xs.drop 0 = xs := fun xs => rfl
  simp only [s81, s75]
  simp only [ir44,rs44,gl,F44,sa,sb,pt,d0,pf,c_fold,hF,s81,F81,qda,qc6,qaj,List.length_cons,List.length_nil,Nat.reduceAdd,Nat.le_refl,Nat.reduceLeDiff,Nat.reduceLT,true_and,and_true,↓qar,↓qao,↓qap,↓qaq,↓qan,↓qak,↓qal,↓qam,idsEs,idsE,idss,killB,effE,stA,deads,nwA,cntA,cnts,cnt,valO,blkO,inj,injs,blk,blks,outA,outR,outE,outEs,sids,List.nodup_cons,List.nodup_nil,List.not_mem_nil,List.mem_cons,or_false,false_or,not_or,↓qax,↓qay,↓qa0,↓qaz,↓qcs,↓qbj,↓qa1,↓qcl,↓qb3,↓qci,↓qcb,↓qce,↓qcf,↓qb4,↓qcd,↓qcj,↓qb5,↓qcg,↓qch,↓qb6,↓qcc,↓qca,↓qb9,↓qb8,↓qb7,↓qa5,↓qbc,↓qa6,↓qbd,↓qa7,↓qbe,↓qa8,↓qbf,↓qa9,↓qbg,↓qba,↓qbh,↓qbb,↓qbi,↓qb2,↓qck,↓qfc,↓qco,↓qcp,↓qcq,↓qcn,↓qcm,↓qbm,↓qbn,↓qb0,↓qbv,↓qbq,↓qbu,↓qbz,↓qbw,↓qby,↓qbx,↓qbr,↓qbp,↓qb1,↓qbs,↓qbt,↓qbo,↓qez,↓qey,↓qe3,↓qe5,↓qe4,↓qex,↓qew,↓qet,↓qeu,↓qe2,↓qe1,↓qe0,qc5,↓qeq,↓qer,↓qev,↓qc4,↓qc2,↓qc3,↓qe7,↓qe8,↓qe9,↓qe6,qaa,↓qes,↓qef,↓qeg,↓qfb,↓qfa,↓qei,↓qdk,↓qds,↓qd9,↓qea,↓qen,↓qeo,↓qdo,↓qdp,↓qdr,↓qdq,↓qdx,↓qep,↓qdv,↓qej,↓qdn,↓qed,↓qek,↓qel,↓qem,↓qd1,↓qd0,↓qd2,↓qd3,↓qd5,↓qdz,↓qd6,↓qd8,↓qd7,↓qdl,↓qdm,↓qdy,↓qaw,↓qdw,↓qee,↓qec,↓qdj,↓qeh,↓qeb,↓qd4,qav,List.drop_zero,Nat.sub_zero,qcy,qct,qcu,qdh,qat,qas,qaf,List.map_cons,List.map_nil,List.zip_cons_cons,List.zip_nil_right,List.zip_nil_left,qau,evs,evp,mkB,repB,blen,qae,qad,qac,qab,qc1,qc0,qdg,qdi,qde,qdf,qcx,qcz,qcv,qcw,↓qdc,↓qdb,↓qdd,↓qah,↓qag,↓qai,↓retQ,res,resAll,resOne,kill,apartOk,exp,injV,injB,pur,purs,purR,pursR,List.set_cons_zero,List.set_cons_succ,List.length_cons,List.length_nil,List.cons_append,List.nil_append,List.append_nil,List.append_assoc,List.length_append,List.reduceReplicate,Nat.reduceAdd,Nat.reduceMul,Nat.reduceSub,Nat.reduceEqDiff,Nat.reduceLT,Nat.zero_add,Nat.add_zero,Nat.mul_one,Int.reduceToNat,Int.toNat_natCast,Int.cast_ofNat_Int,Int.reduceLE,Int.reduceLT,Int.reduceEq,reduceCtorEq,↓reduceIte,Bool.true_eq_false,Bool.false_eq_true,Bool.not_true,Bool.not_false,true_and,and_true,and_assoc,qaj,sub1,qc8,qc7,qc9,List.length_replicate,Nat.le_refl,false_implies,true_implies,ne_eq,not_true_eq_false,not_false_eq_true,decide_true,decide_false,decide_eq_true_eq,decide_eq_false_iff_not,Bool.not_eq_true',Bool.not_eq_false']
  simp [out, outs, out1, qcv, qcw, qc8]
def F41 : List D → Out
  | [.s _ a, .s _ b] => .one (.s .u32 (radd a b))
  | _ => bad
def s41 : Summ := sData [.s .u32, .s .u32] preLL F41
theorem ok41 {g : List Blk} [Ge gl g] : SumOK Try.prog g 41 s41 ∧ SumAbs s41 := by
  refine fsumA (l := [(58, s58), (75, s75)]) mixed gl_plain rfl Try.func41 comp41 compR41 nt41 (by simp only [List.mem_cons, List.not_mem_nil, or_false, forall_eq_or_imp, forall_eq]; exact ⟨ok58, ok75⟩) fun ds ⟨a, b, hd, ha, hb, hal, hbl⟩ hA => ?_
  subst hd
  have pt : pre58 [.s .u32 a, .s .u32 b] := ⟨_, _, rfl, ha, hb, by omega, by omega⟩
  have pf : preFold [.s 1 (max a.length b.length + 1) .u32 (dig 65536 (max a.length b.length + 1) (val 65536 a + val 65536 b))] := pre_fold _ (by omega)
  have hF : foldL (dig 65536 (max a.length b.length + 1) (val 65536 a + val 65536 b)) = radd a b := rfl
  have sa := qc8 a
  have sb := qc8 b
  have d0 : ∀ xs : List Int, xs.drop 0 = xs := fun xs => rfl
  simp only [s58, s75]
  simp only [ir41,rs41,gl,F41,sa,sb,pt,d0,pf,c_fold,hF,s58,F58,qda,qc6,qaj,List.length_cons,List.length_nil,Nat.reduceAdd,Nat.le_refl,Nat.reduceLeDiff,Nat.reduceLT,true_and,and_true,↓qar,↓qao,↓qap,↓qaq,↓qan,↓qak,↓qal,↓qam,idsEs,idsE,idss,killB,effE,stA,deads,nwA,cntA,cnts,cnt,valO,blkO,inj,injs,blk,blks,outA,outR,outE,outEs,sids,List.nodup_cons,List.nodup_nil,List.not_mem_nil,List.mem_cons,or_false,false_or,not_or,↓qax,↓qay,↓qa0,↓qaz,↓qcs,↓qbj,↓qa1,↓qcl,↓qb3,↓qci,↓qcb,↓qce,↓qcf,↓qb4,↓qcd,↓qcj,↓qb5,↓qcg,↓qch,↓qb6,↓qcc,↓qca,↓qb9,↓qb8,↓qb7,↓qa5,↓qbc,↓qa6,↓qbd,↓qa7,↓qbe,↓qa8,↓qbf,↓qa9,↓qbg,↓qba,↓qbh,↓qbb,↓qbi,↓qb2,↓qck,↓qfc,↓qco,↓qcp,↓qcq,↓qcn,↓qcm,↓qbm,↓qbn,↓qb0,↓qbv,↓qbq,↓qbu,↓qbz,↓qbw,↓qby,↓qbx,↓qbr,↓qbp,↓qb1,↓qbs,↓qbt,↓qbo,↓qez,↓qey,↓qe3,↓qe5,↓qe4,↓qex,↓qew,↓qet,↓qeu,↓qe2,↓qe1,↓qe0,qc5,↓qeq,↓qer,↓qev,↓qc4,↓qc2,↓qc3,↓qe7,↓qe8,↓qe9,↓qe6,qaa,↓qes,↓qef,↓qeg,↓qfb,↓qfa,↓qei,↓qdk,↓qds,↓qd9,↓qea,↓qen,↓qeo,↓qdo,↓qdp,↓qdr,↓qdq,↓qdx,↓qep,↓qdv,↓qej,↓qdn,↓qed,↓qek,↓qel,↓qem,↓qd1,↓qd0,↓qd2,↓qd3,↓qd5,↓qdz,↓qd6,↓qd8,↓qd7,↓qdl,↓qdm,↓qdy,↓qaw,↓qdw,↓qee,↓qec,↓qdj,↓qeh,↓qeb,↓qd4,qav,List.drop_zero,Nat.sub_zero,qcy,qct,qcu,qdh,qat,qas,qaf,List.map_cons,List.map_nil,List.zip_cons_cons,List.zip_nil_right,List.zip_nil_left,qau,evs,evp,mkB,repB,blen,qae,qad,qac,qab,qc1,qc0,qdg,qdi,qde,qdf,qcx,qcz,qcv,qcw,↓qdc,↓qdb,↓qdd,↓qah,↓qag,↓qai,↓retQ,res,resAll,resOne,kill,apartOk,exp,injV,injB,pur,purs,purR,pursR,List.set_cons_zero,List.set_cons_succ,List.length_cons,List.length_nil,List.cons_append,List.nil_append,List.append_nil,List.append_assoc,List.length_append,List.reduceReplicate,Nat.reduceAdd,Nat.reduceMul,Nat.reduceSub,Nat.reduceEqDiff,Nat.reduceLT,Nat.zero_add,Nat.add_zero,Nat.mul_one,Int.reduceToNat,Int.toNat_natCast,Int.cast_ofNat_Int,Int.reduceLE,Int.reduceLT,Int.reduceEq,reduceCtorEq,↓reduceIte,Bool.true_eq_false,Bool.false_eq_true,Bool.not_true,Bool.not_false,true_and,and_true,and_assoc,qaj,sub1,qc8,qc7,qc9,List.length_replicate,Nat.le_refl,false_implies,true_implies,ne_eq,not_true_eq_false,not_false_eq_true,decide_true,decide_false,decide_eq_true_eq,decide_eq_false_iff_not,Bool.not_eq_true',Bool.not_eq_false']
  simp [out, outs, out1, qcv, qcw, qc8]
def F43 : List D → Out
  | [.s _ a, .s _ b] => .one (.s .u32 (rsub a b))
  | _ => bad
def s43 : Summ := sData [.s .u32, .s .u32] preLL F43
theorem sum_val {a : List Int} (ha : Dig 65536 a) : val 65536 (dig 65536 (max a.length 16 + 1) (val 65536 a + Pp)) = val 65536 a + Pp := by
  have hb := val_bound (by decide : (0 : Int) < 65536) ha
  have e1 : (65536 : Int) ^ (max a.length 16 + 1) = 65536 ^ max a.length 16 * 65536 := Int.pow_succ ..
  have mono : ∀ n, n ≤ max a.length 16 → (65536 : Int) ^ n ≤ 65536 ^ max a.length 16 := fun n hn => by
    have e : (65536 : Int) ^ max a.length 16 = 65536 ^ n * 65536 ^ (max a.length 16 - n) := by rw [← Int.pow_add]; congr 1; omega
    have hp : (0 : Int) < 65536 ^ n := Int.pow_pos (by decide)
    have hq : (0 : Int) < 65536 ^ (max a.length 16 - n) := Int.pow_pos (by decide)
    rw [e]
    have := Int.mul_le_mul_of_nonneg_left (show (1 : Int) ≤ 65536 ^ (max a.length 16 - n) by omega) (Int.le_of_lt hp)
    rwa [Int.mul_one] at this
  have h1 := mono a.length (by omega)
  have h2 := mono 16 (by omega)
  have h3 : Pp < 65536 ^ 16 := by decide
  have h4 : 0 < Pp := by decide
  refine val_dig (by decide) (by omega) ?_
  rw [e1]; omega
theorem ok43 {g : List Blk} [Ge gl g] : SumOK Try.prog g 43 s43 ∧ SumAbs s43 := by
  refine fsumA (l := [(55, s55), (58, s58), (54, s54), (75, s75)]) mixed gl_plain rfl Try.func43 comp43 compR43 nt43 (by simp only [List.mem_cons, List.not_mem_nil, or_false, forall_eq_or_imp, forall_eq]; exact ⟨ok55, ok58, ok54, ok75⟩) fun ds ⟨a, b, hd, ha, hb, hal, hbl⟩ hA => ?_
  subst hd
  have pP : pre55 [] := rfl
  have sP : sub Ps 0 16 = Ps := qda Ps_len
  have pt : pre58 [.s .u32 a, .s .u32 Ps] := ⟨_, _, rfl, ha, Ps_dig, by omega, by rw [Ps_len]; decide⟩
  obtain ⟨S, hS⟩ : ∃ S, dig 65536 (max a.length 16 + 1) (val 65536 a + val 65536 Ps) = S := ⟨_, rfl⟩
  have hSl : S.length = max a.length 16 + 1 := by rw [← hS, qaj]
  have hSd : Dig 65536 S := by rw [← hS]; exact dig_dig (by decide) _ _
  have hSv : val 65536 S = val 65536 a + Pp := by rw [← hS, val_Ps]; exact sum_val ha
  have sS : sub S 0 (max a.length 16 + 1) = S := qda hSl
  have pm : pre54 [.s .u32 S, .s .u32 b] := ⟨_, _, rfl, hSd, hb, by omega, by omega⟩
  have pf : preFold [.s 1 (max a.length 16 + 1) .u32 (dig 65536 (max a.length 16 + 1) (val 65536 a + Pp - val 65536 b))] := pre_fold _ (by omega)
  have hF : foldL (dig 65536 (max a.length 16 + 1) (val 65536 a + Pp - val 65536 b)) = rsub a b := rfl
  have sa := qc8 a
  have sb := qc8 b
  have d0 : ∀ xs : List Int, xs.drop 0 = xs := fun xs => rfl
  simp only [s55, s58, s54, s75]
  simp only [ir43,rs43,gl,F43,pP,sP,Ps_len,sa,sb,pt,hS,hSl,hSv,sS,pm,d0,pf,c_fold,hF,s55,s58,s54,F55,F58,F54,qda,qc6,qaj,List.length_cons,List.length_nil,Nat.reduceAdd,Nat.le_refl,Nat.reduceLeDiff,Nat.reduceLT,true_and,and_true,↓qar,↓qao,↓qap,↓qaq,↓qan,↓qak,↓qal,↓qam,idsEs,idsE,idss,killB,effE,stA,deads,nwA,cntA,cnts,cnt,valO,blkO,inj,injs,blk,blks,outA,outR,outE,outEs,sids,List.nodup_cons,List.nodup_nil,List.not_mem_nil,List.mem_cons,or_false,false_or,not_or,↓qax,↓qay,↓qa0,↓qaz,↓qcs,↓qbj,↓qa1,↓qcl,↓qb3,↓qci,↓qcb,↓qce,↓qcf,↓qb4,↓qcd,↓qcj,↓qb5,↓qcg,↓qch,↓qb6,↓qcc,↓qca,↓qb9,↓qb8,↓qb7,↓qa5,↓qbc,↓qa6,↓qbd,↓qa7,↓qbe,↓qa8,↓qbf,↓qa9,↓qbg,↓qba,↓qbh,↓qbb,↓qbi,↓qb2,↓qck,↓qfc,↓qco,↓qcp,↓qcq,↓qcn,↓qcm,↓qbm,↓qbn,↓qb0,↓qbv,↓qbq,↓qbu,↓qbz,↓qbw,↓qby,↓qbx,↓qbr,↓qbp,↓qb1,↓qbs,↓qbt,↓qbo,↓qez,↓qey,↓qe3,↓qe5,↓qe4,↓qex,↓qew,↓qet,↓qeu,↓qe2,↓qe1,↓qe0,qc5,↓qeq,↓qer,↓qev,↓qc4,↓qc2,↓qc3,↓qe7,↓qe8,↓qe9,↓qe6,qaa,↓qes,↓qef,↓qeg,↓qfb,↓qfa,↓qei,↓qdk,↓qds,↓qd9,↓qea,↓qen,↓qeo,↓qdo,↓qdp,↓qdr,↓qdq,↓qdx,↓qep,↓qdv,↓qej,↓qdn,↓qed,↓qek,↓qel,↓qem,↓qd1,↓qd0,↓qd2,↓qd3,↓qd5,↓qdz,↓qd6,↓qd8,↓qd7,↓qdl,↓qdm,↓qdy,↓qaw,↓qdw,↓qee,↓qec,↓qdj,↓qeh,↓qeb,↓qd4,qav,List.drop_zero,Nat.sub_zero,qcy,qct,qcu,qdh,qat,qas,qaf,List.map_cons,List.map_nil,List.zip_cons_cons,List.zip_nil_right,List.zip_nil_left,qau,evs,evp,mkB,repB,blen,qae,qad,qac,qab,qc1,qc0,qdg,qdi,qde,qdf,qcx,qcz,qcv,qcw,↓qdc,↓qdb,↓qdd,↓qah,↓qag,↓qai,↓retQ,res,resAll,resOne,kill,apartOk,exp,injV,injB,pur,purs,purR,pursR,List.set_cons_zero,List.set_cons_succ,List.length_cons,List.length_nil,List.cons_append,List.nil_append,List.append_nil,List.append_assoc,List.length_append,List.reduceReplicate,Nat.reduceAdd,Nat.reduceMul,Nat.reduceSub,Nat.reduceEqDiff,Nat.reduceLT,Nat.zero_add,Nat.add_zero,Nat.mul_one,Int.reduceToNat,Int.toNat_natCast,Int.cast_ofNat_Int,Int.reduceLE,Int.reduceLT,Int.reduceEq,reduceCtorEq,↓reduceIte,Bool.true_eq_false,Bool.false_eq_true,Bool.not_true,Bool.not_false,true_and,and_true,and_assoc,qaj,sub1,qc8,qc7,qc9,List.length_replicate,Nat.le_refl,false_implies,true_implies,ne_eq,not_true_eq_false,not_false_eq_true,decide_true,decide_false,decide_eq_true_eq,decide_eq_false_iff_not,Bool.not_eq_true',Bool.not_eq_false']
  simp [out, outs, out1, qcv, qcw, qc8]
/-! ### A key as a number -/
def plc (k : List Int) : List Int := foldL (dig 65536 16 (val 256 k % Q255))
def preKey (ds : List D) : Prop := ∃ k : List Int, ds = [.v (.ints .u8 k)] ∧ Key k
def F25 : List D → Out
  | [.v (.ints _ k)] => .one (.s .u32 (plc k))
  | _ => bad
def s25 : Summ := sData [.v] preKey F25
theorem bAnd_127 {x : Int} (h : 0 ≤ x ∧ x < 256) : bAnd .u8 x 127 = x % 128 :=
  bAnd_mask .u8 7 x h.1 (by simpa [Go.IntKind.bits] using h.2) (by decide) rfl
theorem key_low {k : List Int} (h : Key k) : Key (k.set 31 (getI k 31 % 128)) ∧ val 256 (k.set 31 (getI k 31 % 128)) = val 256 k % Q255 := by
  have hg := h.2.all (by decide) 31
  refine ⟨⟨by simp [h.1], h.2.set _ (by omega) (by omega)⟩, ?_⟩
  have e : getI k 31 = val 256 k / 452312848583266388373324160190187140051835877600158453279131187530910662656 % 256 := digit_at (by decide) h.2 31
  have hv := val_bound (by decide : (0 : Int) < 256) h.2
  have hv2 : val 256 k < 115792089237316195423570985008687907853269984665640564039457584007913129639936 := by
    have := hv.2; rw [h.1] at this; exact Int.lt_of_lt_of_le this (by decide)
  rw [val_set _ _ _ _ (by rw [h.1]; decide), show (256 : Int) ^ 31 = 452312848583266388373324160190187140051835877600158453279131187530910662656 by decide, e]
  have := hv.1
  unfold Q255
  omega
theorem ok25 {g : List Blk} [Ge gl g] : SumOK Try.prog g 25 s25 ∧ SumAbs s25 := by
  refine fsumA (l := [(29, s29), (75, s75)]) mixed gl_plain rfl Try.func25 comp25 compR25 nt25 (by simp only [List.mem_cons, List.not_mem_nil, or_false, forall_eq_or_imp, forall_eq]; exact ⟨ok29, ok75⟩) fun ds ⟨k, hd, hk⟩ hA => ?_
  subst hd
  have hkl := hk.1
  obtain ⟨h1, h2⟩ := key_low hk
  have w1 := bAnd_127 (hk.2.all (by decide) 31)
  obtain ⟨k', hk'⟩ : ∃ k', k.set 31 (getI k 31 % 128) = k' := ⟨_, rfl⟩
  rw [hk'] at h1 h2
  have hkl' := h1.1
  have sk : sub k' 0 32 = k' := qda hkl'
  have po : pre29 [.s .u8 k'] := ⟨_, rfl, h1.2, by omega⟩
  have pf : preFold [.s 1 16 .u32 (dig 65536 16 (val 256 k % Q255))] := pre_fold _ (by omega)
  have hF : foldL (dig 65536 16 (val 256 k % Q255)) = plc k := rfl
  have d0 : ∀ xs : List Int, xs.drop 0 = xs := fun xs => rfl
  have e33 : (32 + 1) / 2 = 16 := rfl
  simp only [s29, s75]
  simp only [ir25,rs25,gl,F25,hkl,w1,hk',hkl',sk,po,h2,e33,d0,pf,c_fold,hF,s29,F29,qda,qc6,qaj,List.length_cons,List.length_nil,Nat.reduceAdd,Nat.le_refl,Nat.reduceLeDiff,Nat.reduceLT,true_and,and_true,↓qar,↓qao,↓qap,↓qaq,↓qan,↓qak,↓qal,↓qam,idsEs,idsE,idss,killB,effE,stA,deads,nwA,cntA,cnts,cnt,valO,blkO,inj,injs,blk,blks,outA,outR,outE,outEs,sids,List.nodup_cons,List.nodup_nil,List.not_mem_nil,List.mem_cons,or_false,false_or,not_or,↓qax,↓qay,↓qa0,↓qaz,↓qcs,↓qbj,↓qa1,↓qcl,↓qb3,↓qci,↓qcb,↓qce,↓qcf,↓qb4,↓qcd,↓qcj,↓qb5,↓qcg,↓qch,↓qb6,↓qcc,↓qca,↓qb9,↓qb8,↓qb7,↓qa5,↓qbc,↓qa6,↓qbd,↓qa7,↓qbe,↓qa8,↓qbf,↓qa9,↓qbg,↓qba,↓qbh,↓qbb,↓qbi,↓qb2,↓qck,↓qfc,↓qco,↓qcp,↓qcq,↓qcn,↓qcm,↓qbm,↓qbn,↓qb0,↓qbv,↓qbq,↓qbu,↓qbz,↓qbw,↓qby,↓qbx,↓qbr,↓qbp,↓qb1,↓qbs,↓qbt,↓qbo,↓qez,↓qey,↓qe3,↓qe5,↓qe4,↓qex,↓qew,↓qet,↓qeu,↓qe2,↓qe1,↓qe0,qc5,↓qeq,↓qer,↓qev,↓qc4,↓qc2,↓qc3,↓qe7,↓qe8,↓qe9,↓qe6,qaa,↓qes,↓qef,↓qeg,↓qfb,↓qfa,↓qei,↓qdk,↓qds,↓qd9,↓qea,↓qen,↓qeo,↓qdo,↓qdp,↓qdr,↓qdq,↓qdx,↓qep,↓qdv,↓qej,↓qdn,↓qed,↓qek,↓qel,↓qem,↓qd1,↓qd0,↓qd2,↓qd3,↓qd5,↓qdz,↓qd6,↓qd8,↓qd7,↓qdl,↓qdm,↓qdy,↓qaw,↓qdw,↓qee,↓qec,↓qdj,↓qeh,↓qeb,↓qd4,qav,List.drop_zero,Nat.sub_zero,qcy,qct,qcu,qdh,qat,qas,qaf,List.map_cons,List.map_nil,List.zip_cons_cons,List.zip_nil_right,List.zip_nil_left,qau,evs,evp,mkB,repB,blen,qae,qad,qac,qab,qc1,qc0,qdg,qdi,qde,qdf,qcx,qcz,qcv,qcw,↓qdc,↓qdb,↓qdd,↓qah,↓qag,↓qai,↓retQ,res,resAll,resOne,kill,apartOk,exp,injV,injB,pur,purs,purR,pursR,List.set_cons_zero,List.set_cons_succ,List.length_cons,List.length_nil,List.cons_append,List.nil_append,List.append_nil,List.append_assoc,List.length_append,List.reduceReplicate,Nat.reduceAdd,Nat.reduceMul,Nat.reduceSub,Nat.reduceEqDiff,Nat.reduceLT,Nat.zero_add,Nat.add_zero,Nat.mul_one,Int.reduceToNat,Int.toNat_natCast,Int.cast_ofNat_Int,Int.reduceLE,Int.reduceLT,Int.reduceEq,reduceCtorEq,↓reduceIte,Bool.true_eq_false,Bool.false_eq_true,Bool.not_true,Bool.not_false,true_and,and_true,and_assoc,qaj,sub1,qc8,qc7,qc9,List.length_replicate,Nat.le_refl,false_implies,true_implies,ne_eq,not_true_eq_false,not_false_eq_true,decide_true,decide_false,decide_eq_true_eq,decide_eq_false_iff_not,Bool.not_eq_true',Bool.not_eq_false']
  simp [out, outs, out1, qcv, qcw, qc8]
end Am
set_option linter.unusedSimpArgs false
set_option linter.unusedVariables false
set_option maxRecDepth 20000
namespace Am
open Go.Proofs
/-! ### The reference's powers -/
/-- A number of no more than 17 parts. -/
def Shrt (l : List Int) : Prop := Dig 65536 l ∧ l.length ≤ 17
theorem Lg.sh {l : List Int} {n : Int} (h : Lg l n) : Shrt l := ⟨h.dig, h.len⟩
theorem rmul_sh {a b : List Int} (ha : Shrt a) (hb : Shrt b) : Shrt (rmul a b) := (fold_lg (dig_dig (by decide) _ _) (by rw [qaj]; have := ha.2; have := hb.2; omega)).sh
def rpst (a : List Int) (V : Int) (n : Nat) (acc : List Int) : List Int := if V / 2 ^ n % 2 = 1 then rmul (rmul acc acc) a else rmul acc acc
def rpw (a : List Int) (V : Int) : Nat → List Int → List Int
  | 0, acc => acc
  | n + 1, acc => rpw a V n (rpst a V n acc)
def rpow (a : List Int) (m : Nat) (V : Int) : List Int := rpw a V m (dig 65536 2 1)
theorem rpst_sh {a acc : List Int} {V : Int} {n : Nat} (ha : Shrt a) (hc : Shrt acc) : Shrt (rpst a V n acc) := by
  unfold rpst; split
  · exact rmul_sh (rmul_sh hc hc) ha
  · exact rmul_sh hc hc
theorem fold_one : foldL (dig 65536 2 1) = dig 65536 2 1 := by
  rw [foldL]
  exact foldN_no (by decide)
theorem one_sh : Shrt (dig 65536 2 1) := ⟨dig_dig (by decide) _ _, by rw [qaj]; decide⟩
theorem pre_ll {a b : List Int} (ha : Shrt a) (hb : Shrt b) : preLL [.s .u32 a, .s .u32 b] := ⟨_, _, rfl, ha.1, hb.1, by have := ha.2; omega, by have := hb.2; omega⟩
theorem long_bit {b : List Int} (hb : Dig 65536 b) (i : Nat) : bAnd .u32 (iShr .u32 (getI b (i / 16)) ((i % 16 : Nat) : Int)) 1 = val 65536 b / 2 ^ i % 2 := by
  have hg := hb.all (by decide) (i / 16)
  have h2 : (0 : Int) < 2 ^ (i % 16) := Int.pow_pos (by decide)
  rw [← bit_of16 hb, iShr_eq, Int.toNat_natCast, Nat.min_eq_left (by simp only [Go.IntKind.bits]; omega)]
  exact bAnd_one32 (Int.ediv_nonneg hg.1 (by omega)) (Int.lt_of_le_of_lt (Int.ediv_le_self _ hg.1) (by omega))
def prePw (ds : List D) : Prop := ∃ a e : List Int, ds = [.s .u32 a, .s .u32 e] ∧ Shrt a ∧ Dig 65536 e ∧ e.length ≤ 20000
def F28 : List D → Out
  | [.s _ a, .s _ e] => .one (.s .u32 (rpow a (16 * e.length) (val 65536 e)))
  | _ => bad
def s28 : Summ := sData [.s .u32, .s .u32] prePw F28
theorem ok28 {g : List Blk} [Ge gl g] : SumOK Try.prog g 28 s28 ∧ SumAbs s28 := by
  refine fsumA (l := [(37, s37), (75, s75), (44, s44)]) mixed gl_plain rfl Try.func28 comp28 compR28 nt28 (by simp only [List.mem_cons, List.not_mem_nil, or_false, forall_eq_or_imp, forall_eq]; exact ⟨ok37, ok75, ok44⟩) fun ds ⟨a, e, hd, ha, he, hel⟩ hA => ?_
  subst hd
  have n1 : pre37 [.v (.int .u32 1)] := ⟨1, rfl, by decide, by decide⟩
  have pf : preFold [.s 1 2 .u32 (dig 65536 2 1)] := pre_fold (n := 2) 1 (by decide)
  have d0 : ∀ xs : List Int, xs.drop 0 = xs := fun xs => rfl
  have sa := qc8 a
  have se := qc8 e
  obtain ⟨V, hV⟩ : ∃ V, val 65536 e = V := ⟨_, rfl⟩
  have hbit := long_bit he
  rw [hV] at hbit
  have hn : Go.IntKind.i64.wrap (Go.IntKind.i64.wrap (16 * (e.length : Int)) - 1) = ((16 * e.length : Nat) : Int) - 1 := by rw [wrap_i64, wrap_i64]; omega
  simp only [s37, s75, s44]
  simp only [ir28,rs28,gl,F28,sa,se,n1,d0,pf,c_fold,fold_one,hn,hV,s37,F37,qda,qc6,qaj,List.length_cons,List.length_nil,Nat.reduceAdd,Nat.le_refl,Nat.reduceLeDiff,Nat.reduceLT,true_and,and_true,↓qar,↓qao,↓qap,↓qaq,↓qan,↓qak,↓qal,↓qam,idsEs,idsE,idss,killB,effE,stA,deads,nwA,cntA,cnts,cnt,valO,blkO,inj,injs,blk,blks,outA,outR,outE,outEs,sids,List.nodup_cons,List.nodup_nil,List.not_mem_nil,List.mem_cons,or_false,false_or,not_or,↓qax,↓qay,↓qa0,↓qaz,↓qcs,↓qbj,↓qa1,↓qcl,↓qb3,↓qci,↓qcb,↓qce,↓qcf,↓qb4,↓qcd,↓qcj,↓qb5,↓qcg,↓qch,↓qb6,↓qcc,↓qca,↓qb9,↓qb8,↓qb7,↓qa5,↓qbc,↓qa6,↓qbd,↓qa7,↓qbe,↓qa8,↓qbf,↓qa9,↓qbg,↓qba,↓qbh,↓qbb,↓qbi,↓qb2,↓qck,↓qfc,↓qco,↓qcp,↓qcq,↓qcn,↓qcm,↓qbm,↓qbn,↓qb0,↓qbv,↓qbq,↓qbu,↓qbz,↓qbw,↓qby,↓qbx,↓qbr,↓qbp,↓qb1,↓qbs,↓qbt,↓qbo,↓qez,↓qey,↓qe3,↓qe5,↓qe4,↓qex,↓qew,↓qet,↓qeu,↓qe2,↓qe1,↓qe0,qc5,↓qeq,↓qer,↓qev,↓qc4,↓qc2,↓qc3,↓qe7,↓qe8,↓qe9,↓qe6,qaa,↓qes,↓qef,↓qeg,↓qfb,↓qfa,↓qei,↓qdk,↓qds,↓qd9,↓qea,↓qen,↓qeo,↓qdo,↓qdp,↓qdr,↓qdq,↓qdx,↓qep,↓qdv,↓qej,↓qdn,↓qed,↓qek,↓qel,↓qem,↓qd1,↓qd0,↓qd2,↓qd3,↓qd5,↓qdz,↓qd6,↓qd8,↓qd7,↓qdl,↓qdm,↓qdy,↓qaw,↓qdw,↓qee,↓qec,↓qdj,↓qeh,↓qeb,↓qd4,qav,List.drop_zero,Nat.sub_zero,qcy,qct,qcu,qdh,qat,qas,qaf,List.map_cons,List.map_nil,List.zip_cons_cons,List.zip_nil_right,List.zip_nil_left,qau,evs,evp,mkB,repB,blen,qae,qad,qac,qab,qc1,qc0,qdg,qdi,qde,qdf,qcx,qcz,qcv,qcw,↓qdc,↓qdb,↓qdd,↓qah,↓qag,↓qai,↓retQ,res,resAll,resOne,kill,apartOk,exp,injV,injB,pur,purs,purR,pursR,List.set_cons_zero,List.set_cons_succ,List.length_cons,List.length_nil,List.cons_append,List.nil_append,List.append_nil,List.append_assoc,List.length_append,List.reduceReplicate,Nat.reduceAdd,Nat.reduceMul,Nat.reduceSub,Nat.reduceEqDiff,Nat.reduceLT,Nat.zero_add,Nat.add_zero,Nat.mul_one,Int.reduceToNat,Int.toNat_natCast,Int.cast_ofNat_Int,Int.reduceLE,Int.reduceLT,Int.reduceEq,reduceCtorEq,↓reduceIte,Bool.true_eq_false,Bool.false_eq_true,Bool.not_true,Bool.not_false,true_and,and_true,and_assoc,qaj,sub1,qc8,qc7,qc9,List.length_replicate,Nat.le_refl,false_implies,true_implies,ne_eq,not_true_eq_false,not_false_eq_true,decide_true,decide_false,decide_eq_true_eq,decide_eq_false_iff_not,Bool.not_eq_true',Bool.not_eq_false']
  obtain ⟨R, hR⟩ : ∃ R, rpow a (16 * e.length) V = R := ⟨_, rfl⟩
  rw [hR]
  refine awp_loopA (n := 34) hA [0, 1, 5, 6] (by decide +kernel) (fun s : Nat × List Int => [.slice 4 0 1 a.length a.length, .slice 5 0 1 e.length e.length, .slice 6 0 1 s.2.length s.2.length, .int .i64 ((s.1 : Int) - 1)])
    (fun s => [.dead, .dead, .dead, .dead, .ints true .u32 a, .ints true .u32 e, .ints false .u32 s.2]) (fun s => s.1 ≤ 16 * e.length ∧ Shrt s.2 ∧ rpw a V s.1 s.2 = R) (fun s => s.1) (16 * e.length, dig 65536 2 1) ?_ ⟨Nat.le_refl _, one_sh, hR⟩ ?_
  · first
      | (refine Hd.same ?_
         simp only [↓qax,↓qay,↓qa0,↓qaz,↓qcs,↓qbj,↓qa1,↓qcl,↓qb3,↓qci,↓qcb,↓qce,↓qcf,↓qb4,↓qcd,↓qcj,↓qb5,↓qcg,↓qch,↓qb6,↓qcc,↓qca,↓qb9,↓qb8,↓qb7,↓qa5,↓qbc,↓qa6,↓qbd,↓qa7,↓qbe,↓qa8,↓qbf,↓qa9,↓qbg,↓qba,↓qbh,↓qbb,↓qbi,↓qb2,↓qck,↓qfc,↓qco,↓qcp,↓qcq,↓qcn,↓qcm,↓qbm,↓qbn,↓qb0,↓qbv,↓qbq,↓qbu,↓qbz,↓qbw,↓qby,↓qbx,↓qbr,↓qbp,↓qb1,↓qbs,↓qbt,↓qbo,↓qez,↓qey,↓qe3,↓qe5,↓qe4,↓qex,↓qew,↓qet,↓qeu,↓qe2,↓qe1,↓qe0,qc5,↓qeq,↓qer,↓qev,↓qc4,↓qc2,↓qc3,↓qe7,↓qe8,↓qe9,↓qe6,qaa,↓qes,↓qef,↓qeg,↓qfb,↓qfa,↓qei,↓qdk,↓qds,↓qd9,↓qea,↓qen,↓qeo,↓qdo,↓qdp,↓qdr,↓qdq,↓qdx,↓qep,↓qdv,↓qej,↓qdn,↓qed,↓qek,↓qel,↓qem,↓qd1,↓qd0,↓qd2,↓qd3,↓qd5,↓qdz,↓qd6,↓qd8,↓qd7,↓qdl,↓qdm,↓qdy,↓qaw,↓qdw,↓qee,↓qec,↓qdj,↓qeh,↓qeb,↓qd4,qav,List.drop_zero,Nat.sub_zero,qcy,qct,qcu,qdh,qat,qas,qaf,List.map_cons,List.map_nil,List.zip_cons_cons,List.zip_nil_right,List.zip_nil_left,qau,evs,evp,mkB,repB,blen,qae,qad,qac,qab,qc1,qc0,qdg,qdi,qde,qdf,qcx,qcz,qcv,qcw,↓qdc,↓qdb,↓qdd,↓qah,↓qag,↓qai,↓retQ,res,resAll,resOne,kill,apartOk,exp,injV,injB,pur,purs,purR,pursR,List.set_cons_zero,List.set_cons_succ,List.length_cons,List.length_nil,List.cons_append,List.nil_append,List.append_nil,List.append_assoc,List.length_append,List.reduceReplicate,Nat.reduceAdd,Nat.reduceMul,Nat.reduceSub,Nat.reduceEqDiff,Nat.reduceLT,Nat.zero_add,Nat.add_zero,Nat.mul_one,Int.reduceToNat,Int.toNat_natCast,Int.cast_ofNat_Int,Int.reduceLE,Int.reduceLT,Int.reduceEq,reduceCtorEq,↓reduceIte,Bool.true_eq_false,Bool.false_eq_true,Bool.not_true,Bool.not_false,true_and,and_true,and_assoc,qaj,sub1,qc8,qc7,qc9,List.length_replicate,Nat.le_refl,false_implies,true_implies,ne_eq,not_true_eq_false,not_false_eq_true,decide_true,decide_false,decide_eq_true_eq,decide_eq_false_iff_not,Bool.not_eq_true',Bool.not_eq_false']; done)
      | (refine Hd.of [0, 1, 2, 3, 4, 5, 7] (by decide) (by decide) (by simp) ?_
         simp only [gc,gcVs,gcV,posOf,gcH,gcB,Option.map_some,Option.map_none,List.replicate_zero,List.drop_zero,↓qax,↓qay,↓qa0,↓qaz,↓qcs,↓qbj,↓qa1,↓qcl,↓qb3,↓qci,↓qcb,↓qce,↓qcf,↓qb4,↓qcd,↓qcj,↓qb5,↓qcg,↓qch,↓qb6,↓qcc,↓qca,↓qb9,↓qb8,↓qb7,↓qa5,↓qbc,↓qa6,↓qbd,↓qa7,↓qbe,↓qa8,↓qbf,↓qa9,↓qbg,↓qba,↓qbh,↓qbb,↓qbi,↓qb2,↓qck,↓qfc,↓qco,↓qcp,↓qcq,↓qcn,↓qcm,↓qbm,↓qbn,↓qb0,↓qbv,↓qbq,↓qbu,↓qbz,↓qbw,↓qby,↓qbx,↓qbr,↓qbp,↓qb1,↓qbs,↓qbt,↓qbo,↓qez,↓qey,↓qe3,↓qe5,↓qe4,↓qex,↓qew,↓qet,↓qeu,↓qe2,↓qe1,↓qe0,qc5,↓qeq,↓qer,↓qev,↓qc4,↓qc2,↓qc3,↓qe7,↓qe8,↓qe9,↓qe6,qaa,↓qes,↓qef,↓qeg,↓qfb,↓qfa,↓qei,↓qdk,↓qds,↓qd9,↓qea,↓qen,↓qeo,↓qdo,↓qdp,↓qdr,↓qdq,↓qdx,↓qep,↓qdv,↓qej,↓qdn,↓qed,↓qek,↓qel,↓qem,↓qd1,↓qd0,↓qd2,↓qd3,↓qd5,↓qdz,↓qd6,↓qd8,↓qd7,↓qdl,↓qdm,↓qdy,↓qaw,↓qdw,↓qee,↓qec,↓qdj,↓qeh,↓qeb,↓qd4,qav,List.drop_zero,Nat.sub_zero,qcy,qct,qcu,qdh,qat,qas,qaf,List.map_cons,List.map_nil,List.zip_cons_cons,List.zip_nil_right,List.zip_nil_left,qau,evs,evp,mkB,repB,blen,qae,qad,qac,qab,qc1,qc0,qdg,qdi,qde,qdf,qcx,qcz,qcv,qcw,↓qdc,↓qdb,↓qdd,↓qah,↓qag,↓qai,↓retQ,res,resAll,resOne,kill,apartOk,exp,injV,injB,pur,purs,purR,pursR,List.set_cons_zero,List.set_cons_succ,List.length_cons,List.length_nil,List.cons_append,List.nil_append,List.append_nil,List.append_assoc,List.length_append,List.reduceReplicate,Nat.reduceAdd,Nat.reduceMul,Nat.reduceSub,Nat.reduceEqDiff,Nat.reduceLT,Nat.zero_add,Nat.add_zero,Nat.mul_one,Int.reduceToNat,Int.toNat_natCast,Int.cast_ofNat_Int,Int.reduceLE,Int.reduceLT,Int.reduceEq,reduceCtorEq,↓reduceIte,Bool.true_eq_false,Bool.false_eq_true,Bool.not_true,Bool.not_false,true_and,and_true,and_assoc,qaj,sub1,qc8,qc7,qc9,List.length_replicate,Nat.le_refl,false_implies,true_implies,ne_eq,not_true_eq_false,not_false_eq_true,decide_true,decide_false,decide_eq_true_eq,decide_eq_false_iff_not,Bool.not_eq_true',Bool.not_eq_false']; done)
  rintro ⟨n, acc⟩ ⟨hn2, hacc, hr⟩ K hK
  simp only at hn2 hacc hr hK
  have sc := qc8 acc
  by_cases h0 : n = 0
  · subst h0
    have c1 : ¬ (0 : Int) ≤ 0 - 1 := by decide
    have hr' : acc = R := hr
    subst hr'
    simp only [c1,qda,qc6,qaj,List.length_cons,List.length_nil,Nat.reduceAdd,Nat.le_refl,Nat.reduceLeDiff,Nat.reduceLT,true_and,and_true,↓qax,↓qay,↓qa0,↓qaz,↓qcs,↓qbj,↓qa1,↓qcl,↓qb3,↓qci,↓qcb,↓qce,↓qcf,↓qb4,↓qcd,↓qcj,↓qb5,↓qcg,↓qch,↓qb6,↓qcc,↓qca,↓qb9,↓qb8,↓qb7,↓qa5,↓qbc,↓qa6,↓qbd,↓qa7,↓qbe,↓qa8,↓qbf,↓qa9,↓qbg,↓qba,↓qbh,↓qbb,↓qbi,↓qb2,↓qck,↓qfc,↓qco,↓qcp,↓qcq,↓qcn,↓qcm,↓qbm,↓qbn,↓qb0,↓qbv,↓qbq,↓qbu,↓qbz,↓qbw,↓qby,↓qbx,↓qbr,↓qbp,↓qb1,↓qbs,↓qbt,↓qbo,↓qez,↓qey,↓qe3,↓qe5,↓qe4,↓qex,↓qew,↓qet,↓qeu,↓qe2,↓qe1,↓qe0,qc5,↓qeq,↓qer,↓qev,↓qc4,↓qc2,↓qc3,↓qe7,↓qe8,↓qe9,↓qe6,qaa,↓qes,↓qef,↓qeg,↓qfb,↓qfa,↓qei,↓qdk,↓qds,↓qd9,↓qea,↓qen,↓qeo,↓qdo,↓qdp,↓qdr,↓qdq,↓qdx,↓qep,↓qdv,↓qej,↓qdn,↓qed,↓qek,↓qel,↓qem,↓qd1,↓qd0,↓qd2,↓qd3,↓qd5,↓qdz,↓qd6,↓qd8,↓qd7,↓qdl,↓qdm,↓qdy,↓qaw,↓qdw,↓qee,↓qec,↓qdj,↓qeh,↓qeb,↓qd4,qav,List.drop_zero,Nat.sub_zero,qcy,qct,qcu,qdh,qat,qas,qaf,List.map_cons,List.map_nil,List.zip_cons_cons,List.zip_nil_right,List.zip_nil_left,qau,evs,evp,mkB,repB,blen,qae,qad,qac,qab,qc1,qc0,qdg,qdi,qde,qdf,qcx,qcz,qcv,qcw,↓qdc,↓qdb,↓qdd,↓qah,↓qag,↓qai,↓retQ,res,resAll,resOne,kill,apartOk,exp,injV,injB,pur,purs,purR,pursR,List.set_cons_zero,List.set_cons_succ,List.length_cons,List.length_nil,List.cons_append,List.nil_append,List.append_nil,List.append_assoc,List.length_append,List.reduceReplicate,Nat.reduceAdd,Nat.reduceMul,Nat.reduceSub,Nat.reduceEqDiff,Nat.reduceLT,Nat.zero_add,Nat.add_zero,Nat.mul_one,Int.reduceToNat,Int.toNat_natCast,Int.cast_ofNat_Int,Int.reduceLE,Int.reduceLT,Int.reduceEq,reduceCtorEq,↓reduceIte,Bool.true_eq_false,Bool.false_eq_true,Bool.not_true,Bool.not_false,true_and,and_true,and_assoc,qaj,sub1,qc8,qc7,qc9,List.length_replicate,Nat.le_refl,false_implies,true_implies,ne_eq,not_true_eq_false,not_false_eq_true,decide_true,decide_false,decide_eq_true_eq,decide_eq_false_iff_not,Bool.not_eq_true',Bool.not_eq_false']
    simp [out, outs, out1, qcv, qcw, qc8]
  · obtain ⟨i, rfl⟩ : ∃ i, n = i + 1 := ⟨n - 1, by omega⟩
    have c0 : ((i + 1 : Nat) : Int) - 1 = (i : Int) := by omega
    have c1 : (0 : Int) ≤ (i : Int) := by omega
    have wd : Go.IntKind.i64.wrap ((i : Int) - 1) = (i : Int) - 1 := by rw [wrap_i64]; omega
    have d16 := w64_div16 (i := i) (by omega)
    have p1 := pre_ll hacc hacc
    have hm := rmul_sh hacc hacc
    have hs : rpw a V (i + 1) acc = rpw a V i (rpst a V i acc) := rfl
    have hps := rpst_sh (V := V) (n := i) ha hacc
    rw [hs] at hr
    obtain ⟨m, hmm⟩ : ∃ m, rmul acc acc = m := ⟨_, rfl⟩
    rw [rpst, hmm] at hr hps
    rw [hmm] at hm
    have sm := qc8 m
    have p2 := pre_ll hm ha
    have hi16 : i / 16 < e.length := by omega
    have hb' := hbit i
    simp only [s37, s75, s44]
    by_cases hb : V / 2 ^ i % 2 = 1
    · rw [if_pos hb] at hr hps
      rw [hb] at hb'
      simp only [c0,c1,wd,d16,tmod16,sa,sc,sm,p1,p2,hmm,hb',hi16,s44,F44,qda,qc6,qaj,List.length_cons,List.length_nil,Nat.reduceAdd,Nat.le_refl,Nat.reduceLeDiff,Nat.reduceLT,true_and,and_true,↓qax,↓qay,↓qa0,↓qaz,↓qcs,↓qbj,↓qa1,↓qcl,↓qb3,↓qci,↓qcb,↓qce,↓qcf,↓qb4,↓qcd,↓qcj,↓qb5,↓qcg,↓qch,↓qb6,↓qcc,↓qca,↓qb9,↓qb8,↓qb7,↓qa5,↓qbc,↓qa6,↓qbd,↓qa7,↓qbe,↓qa8,↓qbf,↓qa9,↓qbg,↓qba,↓qbh,↓qbb,↓qbi,↓qb2,↓qck,↓qfc,↓qco,↓qcp,↓qcq,↓qcn,↓qcm,↓qbm,↓qbn,↓qb0,↓qbv,↓qbq,↓qbu,↓qbz,↓qbw,↓qby,↓qbx,↓qbr,↓qbp,↓qb1,↓qbs,↓qbt,↓qbo,↓qez,↓qey,↓qe3,↓qe5,↓qe4,↓qex,↓qew,↓qet,↓qeu,↓qe2,↓qe1,↓qe0,qc5,↓qeq,↓qer,↓qev,↓qc4,↓qc2,↓qc3,↓qe7,↓qe8,↓qe9,↓qe6,qaa,↓qes,↓qef,↓qeg,↓qfb,↓qfa,↓qei,↓qdk,↓qds,↓qd9,↓qea,↓qen,↓qeo,↓qdo,↓qdp,↓qdr,↓qdq,↓qdx,↓qep,↓qdv,↓qej,↓qdn,↓qed,↓qek,↓qel,↓qem,↓qd1,↓qd0,↓qd2,↓qd3,↓qd5,↓qdz,↓qd6,↓qd8,↓qd7,↓qdl,↓qdm,↓qdy,↓qaw,↓qdw,↓qee,↓qec,↓qdj,↓qeh,↓qeb,↓qd4,qav,List.drop_zero,Nat.sub_zero,qcy,qct,qcu,qdh,qat,qas,qaf,List.map_cons,List.map_nil,List.zip_cons_cons,List.zip_nil_right,List.zip_nil_left,qau,evs,evp,mkB,repB,blen,qae,qad,qac,qab,qc1,qc0,qdg,qdi,qde,qdf,qcx,qcz,qcv,qcw,↓qdc,↓qdb,↓qdd,↓qah,↓qag,↓qai,↓retQ,res,resAll,resOne,kill,apartOk,exp,injV,injB,pur,purs,purR,pursR,List.set_cons_zero,List.set_cons_succ,List.length_cons,List.length_nil,List.cons_append,List.nil_append,List.append_nil,List.append_assoc,List.length_append,List.reduceReplicate,Nat.reduceAdd,Nat.reduceMul,Nat.reduceSub,Nat.reduceEqDiff,Nat.reduceLT,Nat.zero_add,Nat.add_zero,Nat.mul_one,Int.reduceToNat,Int.toNat_natCast,Int.cast_ofNat_Int,Int.reduceLE,Int.reduceLT,Int.reduceEq,reduceCtorEq,↓reduceIte,Bool.true_eq_false,Bool.false_eq_true,Bool.not_true,Bool.not_false,true_and,and_true,and_assoc,qaj,sub1,qc8,qc7,qc9,List.length_replicate,Nat.le_refl,false_implies,true_implies,ne_eq,not_true_eq_false,not_false_eq_true,decide_true,decide_false,decide_eq_true_eq,decide_eq_false_iff_not,Bool.not_eq_true',Bool.not_eq_false']
      repeat (refine And.intro (by omega) ?_)
      refine ⟨(i, rmul m a), hK _ ⟨by simp only; omega, hps, hr⟩ (by simp only; omega), Hd.of [0, 1, 2, 3, 4, 5, 8] (by decide) (by decide) (by simp) ?_⟩
      simp only [gc,gcVs,gcV,posOf,gcH,gcB,Option.map_some,Option.map_none,List.replicate_zero,List.drop_zero,↓qax,↓qay,↓qa0,↓qaz,↓qcs,↓qbj,↓qa1,↓qcl,↓qb3,↓qci,↓qcb,↓qce,↓qcf,↓qb4,↓qcd,↓qcj,↓qb5,↓qcg,↓qch,↓qb6,↓qcc,↓qca,↓qb9,↓qb8,↓qb7,↓qa5,↓qbc,↓qa6,↓qbd,↓qa7,↓qbe,↓qa8,↓qbf,↓qa9,↓qbg,↓qba,↓qbh,↓qbb,↓qbi,↓qb2,↓qck,↓qfc,↓qco,↓qcp,↓qcq,↓qcn,↓qcm,↓qbm,↓qbn,↓qb0,↓qbv,↓qbq,↓qbu,↓qbz,↓qbw,↓qby,↓qbx,↓qbr,↓qbp,↓qb1,↓qbs,↓qbt,↓qbo,↓qez,↓qey,↓qe3,↓qe5,↓qe4,↓qex,↓qew,↓qet,↓qeu,↓qe2,↓qe1,↓qe0,qc5,↓qeq,↓qer,↓qev,↓qc4,↓qc2,↓qc3,↓qe7,↓qe8,↓qe9,↓qe6,qaa,↓qes,↓qef,↓qeg,↓qfb,↓qfa,↓qei,↓qdk,↓qds,↓qd9,↓qea,↓qen,↓qeo,↓qdo,↓qdp,↓qdr,↓qdq,↓qdx,↓qep,↓qdv,↓qej,↓qdn,↓qed,↓qek,↓qel,↓qem,↓qd1,↓qd0,↓qd2,↓qd3,↓qd5,↓qdz,↓qd6,↓qd8,↓qd7,↓qdl,↓qdm,↓qdy,↓qaw,↓qdw,↓qee,↓qec,↓qdj,↓qeh,↓qeb,↓qd4,qav,List.drop_zero,Nat.sub_zero,qcy,qct,qcu,qdh,qat,qas,qaf,List.map_cons,List.map_nil,List.zip_cons_cons,List.zip_nil_right,List.zip_nil_left,qau,evs,evp,mkB,repB,blen,qae,qad,qac,qab,qc1,qc0,qdg,qdi,qde,qdf,qcx,qcz,qcv,qcw,↓qdc,↓qdb,↓qdd,↓qah,↓qag,↓qai,↓retQ,res,resAll,resOne,kill,apartOk,exp,injV,injB,pur,purs,purR,pursR,List.set_cons_zero,List.set_cons_succ,List.length_cons,List.length_nil,List.cons_append,List.nil_append,List.append_nil,List.append_assoc,List.length_append,List.reduceReplicate,Nat.reduceAdd,Nat.reduceMul,Nat.reduceSub,Nat.reduceEqDiff,Nat.reduceLT,Nat.zero_add,Nat.add_zero,Nat.mul_one,Int.reduceToNat,Int.toNat_natCast,Int.cast_ofNat_Int,Int.reduceLE,Int.reduceLT,Int.reduceEq,reduceCtorEq,↓reduceIte,Bool.true_eq_false,Bool.false_eq_true,Bool.not_true,Bool.not_false,true_and,and_true,and_assoc,qaj,sub1,qc8,qc7,qc9,List.length_replicate,Nat.le_refl,false_implies,true_implies,ne_eq,not_true_eq_false,not_false_eq_true,decide_true,decide_false,decide_eq_true_eq,decide_eq_false_iff_not,Bool.not_eq_true',Bool.not_eq_false']
    · rw [if_neg hb] at hr hps
      have hb0 : V / 2 ^ i % 2 = 0 := by omega
      rw [hb0] at hb'
      simp only [c0,c1,wd,d16,tmod16,sa,sc,sm,p1,p2,hmm,hb',hi16,s44,F44,qda,qc6,qaj,List.length_cons,List.length_nil,Nat.reduceAdd,Nat.le_refl,Nat.reduceLeDiff,Nat.reduceLT,true_and,and_true,↓qax,↓qay,↓qa0,↓qaz,↓qcs,↓qbj,↓qa1,↓qcl,↓qb3,↓qci,↓qcb,↓qce,↓qcf,↓qb4,↓qcd,↓qcj,↓qb5,↓qcg,↓qch,↓qb6,↓qcc,↓qca,↓qb9,↓qb8,↓qb7,↓qa5,↓qbc,↓qa6,↓qbd,↓qa7,↓qbe,↓qa8,↓qbf,↓qa9,↓qbg,↓qba,↓qbh,↓qbb,↓qbi,↓qb2,↓qck,↓qfc,↓qco,↓qcp,↓qcq,↓qcn,↓qcm,↓qbm,↓qbn,↓qb0,↓qbv,↓qbq,↓qbu,↓qbz,↓qbw,↓qby,↓qbx,↓qbr,↓qbp,↓qb1,↓qbs,↓qbt,↓qbo,↓qez,↓qey,↓qe3,↓qe5,↓qe4,↓qex,↓qew,↓qet,↓qeu,↓qe2,↓qe1,↓qe0,qc5,↓qeq,↓qer,↓qev,↓qc4,↓qc2,↓qc3,↓qe7,↓qe8,↓qe9,↓qe6,qaa,↓qes,↓qef,↓qeg,↓qfb,↓qfa,↓qei,↓qdk,↓qds,↓qd9,↓qea,↓qen,↓qeo,↓qdo,↓qdp,↓qdr,↓qdq,↓qdx,↓qep,↓qdv,↓qej,↓qdn,↓qed,↓qek,↓qel,↓qem,↓qd1,↓qd0,↓qd2,↓qd3,↓qd5,↓qdz,↓qd6,↓qd8,↓qd7,↓qdl,↓qdm,↓qdy,↓qaw,↓qdw,↓qee,↓qec,↓qdj,↓qeh,↓qeb,↓qd4,qav,List.drop_zero,Nat.sub_zero,qcy,qct,qcu,qdh,qat,qas,qaf,List.map_cons,List.map_nil,List.zip_cons_cons,List.zip_nil_right,List.zip_nil_left,qau,evs,evp,mkB,repB,blen,qae,qad,qac,qab,qc1,qc0,qdg,qdi,qde,qdf,qcx,qcz,qcv,qcw,↓qdc,↓qdb,↓qdd,↓qah,↓qag,↓qai,↓retQ,res,resAll,resOne,kill,apartOk,exp,injV,injB,pur,purs,purR,pursR,List.set_cons_zero,List.set_cons_succ,List.length_cons,List.length_nil,List.cons_append,List.nil_append,List.append_nil,List.append_assoc,List.length_append,List.reduceReplicate,Nat.reduceAdd,Nat.reduceMul,Nat.reduceSub,Nat.reduceEqDiff,Nat.reduceLT,Nat.zero_add,Nat.add_zero,Nat.mul_one,Int.reduceToNat,Int.toNat_natCast,Int.cast_ofNat_Int,Int.reduceLE,Int.reduceLT,Int.reduceEq,reduceCtorEq,↓reduceIte,Bool.true_eq_false,Bool.false_eq_true,Bool.not_true,Bool.not_false,true_and,and_true,and_assoc,qaj,sub1,qc8,qc7,qc9,List.length_replicate,Nat.le_refl,false_implies,true_implies,ne_eq,not_true_eq_false,not_false_eq_true,decide_true,decide_false,decide_eq_true_eq,decide_eq_false_iff_not,Bool.not_eq_true',Bool.not_eq_false']
      repeat (refine And.intro (by omega) ?_)
      refine ⟨(i, m), hK _ ⟨by simp only; omega, hps, hr⟩ (by simp only; omega), Hd.of [0, 1, 2, 3, 4, 5, 7] (by decide) (by decide) (by simp) ?_⟩
      simp only [gc,gcVs,gcV,posOf,gcH,gcB,Option.map_some,Option.map_none,List.replicate_zero,List.drop_zero,↓qax,↓qay,↓qa0,↓qaz,↓qcs,↓qbj,↓qa1,↓qcl,↓qb3,↓qci,↓qcb,↓qce,↓qcf,↓qb4,↓qcd,↓qcj,↓qb5,↓qcg,↓qch,↓qb6,↓qcc,↓qca,↓qb9,↓qb8,↓qb7,↓qa5,↓qbc,↓qa6,↓qbd,↓qa7,↓qbe,↓qa8,↓qbf,↓qa9,↓qbg,↓qba,↓qbh,↓qbb,↓qbi,↓qb2,↓qck,↓qfc,↓qco,↓qcp,↓qcq,↓qcn,↓qcm,↓qbm,↓qbn,↓qb0,↓qbv,↓qbq,↓qbu,↓qbz,↓qbw,↓qby,↓qbx,↓qbr,↓qbp,↓qb1,↓qbs,↓qbt,↓qbo,↓qez,↓qey,↓qe3,↓qe5,↓qe4,↓qex,↓qew,↓qet,↓qeu,↓qe2,↓qe1,↓qe0,qc5,↓qeq,↓qer,↓qev,↓qc4,↓qc2,↓qc3,↓qe7,↓qe8,↓qe9,↓qe6,qaa,↓qes,↓qef,↓qeg,↓qfb,↓qfa,↓qei,↓qdk,↓qds,↓qd9,↓qea,↓qen,↓qeo,↓qdo,↓qdp,↓qdr,↓qdq,↓qdx,↓qep,↓qdv,↓qej,↓qdn,↓qed,↓qek,↓qel,↓qem,↓qd1,↓qd0,↓qd2,↓qd3,↓qd5,↓qdz,↓qd6,↓qd8,↓qd7,↓qdl,↓qdm,↓qdy,↓qaw,↓qdw,↓qee,↓qec,↓qdj,↓qeh,↓qeb,↓qd4,qav,List.drop_zero,Nat.sub_zero,qcy,qct,qcu,qdh,qat,qas,qaf,List.map_cons,List.map_nil,List.zip_cons_cons,List.zip_nil_right,List.zip_nil_left,qau,evs,evp,mkB,repB,blen,qae,qad,qac,qab,qc1,qc0,qdg,qdi,qde,qdf,qcx,qcz,qcv,qcw,↓qdc,↓qdb,↓qdd,↓qah,↓qag,↓qai,↓retQ,res,resAll,resOne,kill,apartOk,exp,injV,injB,pur,purs,purR,pursR,List.set_cons_zero,List.set_cons_succ,List.length_cons,List.length_nil,List.cons_append,List.nil_append,List.append_nil,List.append_assoc,List.length_append,List.reduceReplicate,Nat.reduceAdd,Nat.reduceMul,Nat.reduceSub,Nat.reduceEqDiff,Nat.reduceLT,Nat.zero_add,Nat.add_zero,Nat.mul_one,Int.reduceToNat,Int.toNat_natCast,Int.cast_ofNat_Int,Int.reduceLE,Int.reduceLT,Int.reduceEq,reduceCtorEq,↓reduceIte,Bool.true_eq_false,Bool.false_eq_true,Bool.not_true,Bool.not_false,true_and,and_true,and_assoc,qaj,sub1,qc8,qc7,qc9,List.length_replicate,Nat.le_refl,false_implies,true_implies,ne_eq,not_true_eq_false,not_false_eq_true,decide_true,decide_false,decide_eq_true_eq,decide_eq_false_iff_not,Bool.not_eq_true',Bool.not_eq_false']
def over (a : List Int) : List Int := rpow a 256 (Pp - 2)
def preSh (ds : List D) : Prop := ∃ a : List Int, ds = [.s .u32 a] ∧ Shrt a
def F32 : List D → Out
  | [.s _ a] => .one (.s .u32 (over a))
  | _ => bad
def s32 : Summ := sData [.s .u32] preSh F32
theorem ok32 {g : List Blk} [Ge gl g] : SumOK Try.prog g 32 s32 ∧ SumAbs s32 := by
  refine fsumA (l := [(55, s55), (37, s37), (54, s54), (28, s28)]) mixed gl_plain rfl Try.func32 comp32 compR32 nt32 (by simp only [List.mem_cons, List.not_mem_nil, or_false, forall_eq_or_imp, forall_eq]; exact ⟨ok55, ok37, ok54, ok28⟩) fun ds ⟨a, hd, ha⟩ hA => ?_
  subst hd
  have n2 : pre37 [.v (.int .u32 2)] := ⟨2, rfl, by decide, by decide⟩
  have pP : pre55 [] := rfl
  have sP : sub Ps 0 16 = Ps := qda Ps_len
  have pm : pre54 [.s .u32 Ps, .s .u32 (dig 65536 2 2)] := ⟨_, _, rfl, Ps_dig, dig_dig (by decide) _ _, by rw [Ps_len]; decide, by rw [qaj]; decide⟩
  obtain ⟨e, hee⟩ : ∃ e, dig 65536 16 (val 65536 Ps - val 65536 (dig 65536 2 2)) = e := ⟨_, rfl⟩
  have hel : e.length = 16 := by rw [← hee, qaj]
  have hed : Dig 65536 e := by rw [← hee]; exact dig_dig (by decide) _ _
  have hev : val 65536 e = Pp - 2 := by rw [← hee, val_Ps, show val 65536 (dig 65536 2 2) = 2 by decide]; exact val_dig (by decide) (by decide) (by decide)
  have se : sub e 0 16 = e := qda hel
  have pp : prePw [.s .u32 a, .s .u32 e] := ⟨_, _, rfl, ha, hed, by omega⟩
  have sa := qc8 a
  have hO : rpow a (16 * 16) (Pp - 2) = over a := rfl
  have hO2 : rpow a 256 (Pp - 2) = over a := rfl
  simp only [s55, s37, s54, s28]
  simp only [ir32,rs32,gl,F32,sa,n2,pP,sP,Ps_len,pm,hee,hel,hev,se,pp,hO,hO2,s55,s37,s54,s28,F55,F37,F54,F28,qda,qc6,qaj,List.length_cons,List.length_nil,Nat.reduceAdd,Nat.le_refl,Nat.reduceLeDiff,Nat.reduceLT,true_and,and_true,↓qax,↓qay,↓qa0,↓qaz,↓qcs,↓qbj,↓qa1,↓qcl,↓qb3,↓qci,↓qcb,↓qce,↓qcf,↓qb4,↓qcd,↓qcj,↓qb5,↓qcg,↓qch,↓qb6,↓qcc,↓qca,↓qb9,↓qb8,↓qb7,↓qa5,↓qbc,↓qa6,↓qbd,↓qa7,↓qbe,↓qa8,↓qbf,↓qa9,↓qbg,↓qba,↓qbh,↓qbb,↓qbi,↓qb2,↓qck,↓qfc,↓qco,↓qcp,↓qcq,↓qcn,↓qcm,↓qbm,↓qbn,↓qb0,↓qbv,↓qbq,↓qbu,↓qbz,↓qbw,↓qby,↓qbx,↓qbr,↓qbp,↓qb1,↓qbs,↓qbt,↓qbo,↓qez,↓qey,↓qe3,↓qe5,↓qe4,↓qex,↓qew,↓qet,↓qeu,↓qe2,↓qe1,↓qe0,qc5,↓qeq,↓qer,↓qev,↓qc4,↓qc2,↓qc3,↓qe7,↓qe8,↓qe9,↓qe6,qaa,↓qes,↓qef,↓qeg,↓qfb,↓qfa,↓qei,↓qdk,↓qds,↓qd9,↓qea,↓qen,↓qeo,↓qdo,↓qdp,↓qdr,↓qdq,↓qdx,↓qep,↓qdv,↓qej,↓qdn,↓qed,↓qek,↓qel,↓qem,↓qd1,↓qd0,↓qd2,↓qd3,↓qd5,↓qdz,↓qd6,↓qd8,↓qd7,↓qdl,↓qdm,↓qdy,↓qaw,↓qdw,↓qee,↓qec,↓qdj,↓qeh,↓qeb,↓qd4,qav,List.drop_zero,Nat.sub_zero,qcy,qct,qcu,qdh,qat,qas,qaf,List.map_cons,List.map_nil,List.zip_cons_cons,List.zip_nil_right,List.zip_nil_left,qau,evs,evp,mkB,repB,blen,qae,qad,qac,qab,qc1,qc0,qdg,qdi,qde,qdf,qcx,qcz,qcv,qcw,↓qdc,↓qdb,↓qdd,↓qah,↓qag,↓qai,↓retQ,res,resAll,resOne,kill,apartOk,exp,injV,injB,pur,purs,purR,pursR,List.set_cons_zero,List.set_cons_succ,List.length_cons,List.length_nil,List.cons_append,List.nil_append,List.append_nil,List.append_assoc,List.length_append,List.reduceReplicate,Nat.reduceAdd,Nat.reduceMul,Nat.reduceSub,Nat.reduceEqDiff,Nat.reduceLT,Nat.zero_add,Nat.add_zero,Nat.mul_one,Int.reduceToNat,Int.toNat_natCast,Int.cast_ofNat_Int,Int.reduceLE,Int.reduceLT,Int.reduceEq,reduceCtorEq,↓reduceIte,Bool.true_eq_false,Bool.false_eq_true,Bool.not_true,Bool.not_false,true_and,and_true,and_assoc,qaj,sub1,qc8,qc7,qc9,List.length_replicate,Nat.le_refl,false_implies,true_implies,ne_eq,not_true_eq_false,not_false_eq_true,decide_true,decide_false,decide_eq_true_eq,decide_eq_false_iff_not,Bool.not_eq_true',Bool.not_eq_false']
  simp [out, outs, out1, qcv, qcw, qc8]
end Am
