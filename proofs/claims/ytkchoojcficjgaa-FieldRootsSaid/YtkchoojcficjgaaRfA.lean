/-
Working texts: contracts of functions, and the numbers behind them.
-/
import Derived.Test.YtkchoojcficjgaaBase
import Derived.Test.YtkchoojcficjgaaAmNum
set_option linter.unusedSimpArgs false
set_option linter.unusedVariables false
set_option linter.unusedSectionVars false
set_option linter.unusedSimpArgs false
set_option linter.unusedVariables false
set_option maxRecDepth 20000
namespace Am
open Go.Proofs
def Ls : List Int := [0xd3ed, 0x5cf5, 0x631a, 0x5812, 0x9cd6, 0xa2f7, 0xf9de, 0x14de, 0, 0, 0, 0, 0, 0, 0, 0x1000]
theorem val_Ls : val 65536 Ls = Lo := by decide
theorem Ls_dig : Dig 65536 Ls := by unfold Dig Ls; decide
def pre73 (ds : List D) : Prop := ds = []
def F73 : List D → Out
  | _ => .one (.s .u32 Ls)
def s73 : Summ := sData [] pre73 F73
theorem out_sl {m : Nat} {k : Go.IntKind} {xs ys : List Int} {hp : List Blk} {b o len cap : Nat} (hb : nthB hp b = .ints false k ys) (hm : m ≤ b) (hl : o + len ≤ ys.length) (h : sub ys o len = xs) : out m (.one (.s k xs)) (.slice b o 1 len cap) hp := by
  simp [out, outs, out1, hb, hm, hl, h]
theorem ok73 : SumOK Try.prog gl 73 s73 ∧ SumAbs s73 := by
  refine fsum (l := []) mixed gl_plain rfl Try.func73 comp73 compR73 nt73 (by simp) fun ds hd hA => ?_
  rw [hd]
  simp only [ir73,rs73,gl,F73,↓qax,↓qay,↓qa0,↓qaz,↓qcs,↓qbj,↓qa1,↓qcl,↓qb3,↓qci,↓qcb,↓qce,↓qcf,↓qb4,↓qcd,↓qcj,↓qb5,↓qcg,↓qch,↓qb6,↓qcc,↓qca,↓qb9,↓qb8,↓qb7,↓qa5,↓qbc,↓qa6,↓qbd,↓qa7,↓qbe,↓qa8,↓qbf,↓qa9,↓qbg,↓qba,↓qbh,↓qbb,↓qbi,↓qb2,↓qck,↓qcr,↓qco,↓qcp,↓qcq,↓qcn,↓qcm,↓qbm,↓qbn,↓qb0,↓qbv,↓qbq,↓qbu,↓qbz,↓qbw,↓qby,↓qbx,↓qbr,↓qbp,↓qb1,↓qbs,↓qbt,↓qbo,↓qa2,↓qa3,↓qa4,↓qbk,↓qbl,↓qex,↓qew,↓qet,↓qeu,↓qe2,↓qe1,↓qe0,qc5,↓qeq,↓qer,↓qev,↓qc4,↓qc2,↓qc3,↓qe7,↓qe8,↓qe9,↓qe6,qaa,↓qes,↓qef,↓qeg,↓qfb,↓qfa,↓qei,↓qdk,↓qds,↓qdu,↓qdt,↓qd9,↓qea,↓qen,↓qeo,↓qdo,↓qdp,↓qdr,↓qdq,↓qdx,↓qep,↓qdv,↓qej,↓qdn,↓qed,↓qek,↓qel,↓qem,↓qd1,↓qd0,↓qd2,↓qd3,↓qd5,↓qdz,↓qd6,↓qd8,↓qd7,↓qdl,↓qdm,↓qdy,↓qaw,↓qdw,↓qee,↓qec,↓qdj,↓qeh,↓qeb,↓qd4,qav,qau,evs,evp,mkB,repB,fill,blen,qae,qad,qac,qab,qc1,qc0,qdg,qdi,qde,qdf,qcx,qcz,qcv,qcw,↓qdc,↓qdb,↓qdd,↓qah,↓qag,↓qai,↓retQ,res,resAll,resOne,kill,apartOk,exp,injV,injB,pur,purs,purR,pursR,List.set_cons_zero,List.set_cons_succ,List.length_cons,List.length_nil,List.cons_append,List.nil_append,List.append_nil,List.append_assoc,List.length_append,List.reduceReplicate,Nat.reduceAdd,Nat.reduceMul,Nat.reduceSub,Nat.reduceEqDiff,Nat.reduceLT,Nat.zero_add,Nat.add_zero,Nat.mul_one,Int.reduceToNat,Int.toNat_natCast,Int.cast_ofNat_Int,Int.reduceLE,Int.reduceLT,Int.reduceEq,reduceCtorEq,↓reduceIte,Bool.true_eq_false,Bool.false_eq_true,Bool.not_true,Bool.not_false,true_and,and_true,and_assoc,qaj,sub1,qc8,qc7,qc9,List.length_replicate,Nat.le_refl,forall_const,false_implies,true_implies,ne_eq,not_true_eq_false,not_false_eq_true,decide_true,decide_false,decide_eq_true_eq,decide_eq_false_iff_not,Bool.not_eq_true',Bool.not_eq_false',implies_true]
  exact out_sl (by simp only [qcv, qcw]; rfl) (by decide) (by decide) (by decide)
def pre77 (ds : List D) : Prop := ∃ a i, ds = [.s .u32 a, .v (.int .i64 ((i : Nat) : Int))]
def F77 : List D → Out
  | [.s _ a, .v (.int _ i)] => .one (.v (.int .u32 (getI a i.toNat)))
  | _ => bad
def s77 : Summ := sData [.s .u32, .v] pre77 F77
theorem ok77 : SumOK Try.prog gl 77 s77 ∧ SumAbs s77 := by
  refine fsum (l := []) mixed gl_plain rfl Try.func77 comp77 compR77 nt77 (by simp) fun ds ⟨a, i, hd⟩ hA => ?_
  subst hd
  simp only [ir77,rs77,gl,F77,↓qax,↓qay,↓qa0,↓qaz,↓qcs,↓qbj,↓qa1,↓qcl,↓qb3,↓qci,↓qcb,↓qce,↓qcf,↓qb4,↓qcd,↓qcj,↓qb5,↓qcg,↓qch,↓qb6,↓qcc,↓qca,↓qb9,↓qb8,↓qb7,↓qa5,↓qbc,↓qa6,↓qbd,↓qa7,↓qbe,↓qa8,↓qbf,↓qa9,↓qbg,↓qba,↓qbh,↓qbb,↓qbi,↓qb2,↓qck,↓qcr,↓qco,↓qcp,↓qcq,↓qcn,↓qcm,↓qbm,↓qbn,↓qb0,↓qbv,↓qbq,↓qbu,↓qbz,↓qbw,↓qby,↓qbx,↓qbr,↓qbp,↓qb1,↓qbs,↓qbt,↓qbo,↓qa2,↓qa3,↓qa4,↓qbk,↓qbl,↓qex,↓qew,↓qet,↓qeu,↓qe2,↓qe1,↓qe0,qc5,↓qeq,↓qer,↓qev,↓qc4,↓qc2,↓qc3,↓qe7,↓qe8,↓qe9,↓qe6,qaa,↓qes,↓qef,↓qeg,↓qfb,↓qfa,↓qei,↓qdk,↓qds,↓qdu,↓qdt,↓qd9,↓qea,↓qen,↓qeo,↓qdo,↓qdp,↓qdr,↓qdq,↓qdx,↓qep,↓qdv,↓qej,↓qdn,↓qed,↓qek,↓qel,↓qem,↓qd1,↓qd0,↓qd2,↓qd3,↓qd5,↓qdz,↓qd6,↓qd8,↓qd7,↓qdl,↓qdm,↓qdy,↓qaw,↓qdw,↓qee,↓qec,↓qdj,↓qeh,↓qeb,↓qd4,qav,qau,evs,evp,mkB,repB,fill,blen,qae,qad,qac,qab,qc1,qc0,qdg,qdi,qde,qdf,qcx,qcz,qcv,qcw,↓qdc,↓qdb,↓qdd,↓qah,↓qag,↓qai,↓retQ,res,resAll,resOne,kill,apartOk,exp,injV,injB,pur,purs,purR,pursR,List.set_cons_zero,List.set_cons_succ,List.length_cons,List.length_nil,List.cons_append,List.nil_append,List.append_nil,List.append_assoc,List.length_append,List.reduceReplicate,Nat.reduceAdd,Nat.reduceMul,Nat.reduceSub,Nat.reduceEqDiff,Nat.reduceLT,Nat.zero_add,Nat.add_zero,Nat.mul_one,Int.reduceToNat,Int.toNat_natCast,Int.cast_ofNat_Int,Int.reduceLE,Int.reduceLT,Int.reduceEq,reduceCtorEq,↓reduceIte,Bool.true_eq_false,Bool.false_eq_true,Bool.not_true,Bool.not_false,true_and,and_true,and_assoc,qaj,sub1,qc8,qc7,qc9,List.length_replicate,Nat.le_refl,forall_const,false_implies,true_implies,ne_eq,not_true_eq_false,not_false_eq_true,decide_true,decide_false,decide_eq_true_eq,decide_eq_false_iff_not,Bool.not_eq_true',Bool.not_eq_false',implies_true]
  refine ⟨fun h => ?_, fun h => ?_⟩
  · repeat (refine And.intro (by first | omega | rfl) ?_)
    exact out_int rfl
  · exact out_int (by rw [getI_of_le (by omega)])
theorem part_val {a : List Int} (ha : Dig 65536 a) (q : Nat) : getI a q = val 65536 a / 65536 ^ q % 65536 := by
  rcases Nat.lt_or_ge q a.length with h | h
  · have := getI_dig (B := 65536) (by decide) (x := val 65536 a) h
    rwa [dig_val (by decide) ha] at this
  · rw [getI_of_le h, Int.ediv_eq_zero_of_lt (val_nonneg (by decide) ha) (val_lt_pow (by decide) ha h)]; rfl
theorem byte_of16 {a : List Int} (ha : Dig 65536 a) {i N : Nat} (hi : i < N) : getI (dig 256 N (val 65536 a)) i = getI a (i / 2) / 2 ^ (8 * (i % 2)) % 256 := by
  rw [getI_dig (by decide) hi, part_val ha]
  have e : (256 : Int) ^ i = 65536 ^ (i / 2) * 256 ^ (i % 2) := by
    conv => lhs; rw [← Nat.div_add_mod i 2, Int.pow_add, Int.pow_mul]
    rfl
  rw [e, ← Int.ediv_ediv_of_nonneg (Int.le_of_lt (Int.pow_pos (by decide)))]
  generalize val 65536 a / 65536 ^ (i / 2) = y
  have hr : i % 2 < 2 := Nat.mod_lt _ (by decide)
  generalize i % 2 = r at hr
  rcases (by omega : r = 0 ∨ r = 1) with rfl | rfl <;> simp <;> omega
theorem part_bound {a : List Int} (ha : Dig 65536 a) (q : Nat) : 0 ≤ getI a q ∧ getI a q < 65536 := ha.all (by decide) q
def pre30 (ds : List D) : Prop := ∃ a, ds = [.s .u32 a] ∧ Dig 65536 a
def F30 : List D → Out
  | [.s _ a] => .one (.v (.ints .u8 (dig 256 32 (val 65536 a))))
  | _ => bad
def s30 : Summ := sData [.s .u32] pre30 F30
theorem ok30 : SumOK Try.prog gl 30 s30 ∧ SumAbs s30 := by
  refine fsum (l := [(77, s77)]) mixed gl_plain rfl Try.func30 comp30 compR30 nt30 (by simp only [List.mem_cons, List.not_mem_nil, or_false, forall_eq]; exact ok77) fun ds ⟨a, hd, ha⟩ hA => ?_
  subst hd
  simp only [s77]
  simp only [ir30,rs30,gl,F30,s77,F77,↓qax,↓qay,↓qa0,↓qaz,↓qcs,↓qbj,↓qa1,↓qcl,↓qb3,↓qci,↓qcb,↓qce,↓qcf,↓qb4,↓qcd,↓qcj,↓qb5,↓qcg,↓qch,↓qb6,↓qcc,↓qca,↓qb9,↓qb8,↓qb7,↓qa5,↓qbc,↓qa6,↓qbd,↓qa7,↓qbe,↓qa8,↓qbf,↓qa9,↓qbg,↓qba,↓qbh,↓qbb,↓qbi,↓qb2,↓qck,↓qcr,↓qco,↓qcp,↓qcq,↓qcn,↓qcm,↓qbm,↓qbn,↓qb0,↓qbv,↓qbq,↓qbu,↓qbz,↓qbw,↓qby,↓qbx,↓qbr,↓qbp,↓qb1,↓qbs,↓qbt,↓qbo,↓qa2,↓qa3,↓qa4,↓qbk,↓qbl,↓qex,↓qew,↓qet,↓qeu,↓qe2,↓qe1,↓qe0,qc5,↓qeq,↓qer,↓qev,↓qc4,↓qc2,↓qc3,↓qe7,↓qe8,↓qe9,↓qe6,qaa,↓qes,↓qef,↓qeg,↓qfb,↓qfa,↓qei,↓qdk,↓qds,↓qdu,↓qdt,↓qd9,↓qea,↓qen,↓qeo,↓qdo,↓qdp,↓qdr,↓qdq,↓qdx,↓qep,↓qdv,↓qej,↓qdn,↓qed,↓qek,↓qel,↓qem,↓qd1,↓qd0,↓qd2,↓qd3,↓qd5,↓qdz,↓qd6,↓qd8,↓qd7,↓qdl,↓qdm,↓qdy,↓qaw,↓qdw,↓qee,↓qec,↓qdj,↓qeh,↓qeb,↓qd4,qav,qau,evs,evp,mkB,repB,fill,blen,qae,qad,qac,qab,qc1,qc0,qdg,qdi,qde,qdf,qcx,qcz,qcv,qcw,↓qdc,↓qdb,↓qdd,↓qah,↓qag,↓qai,↓retQ,res,resAll,resOne,kill,apartOk,exp,injV,injB,pur,purs,purR,pursR,List.set_cons_zero,List.set_cons_succ,List.length_cons,List.length_nil,List.cons_append,List.nil_append,List.append_nil,List.append_assoc,List.length_append,List.reduceReplicate,Nat.reduceAdd,Nat.reduceMul,Nat.reduceSub,Nat.reduceEqDiff,Nat.reduceLT,Nat.zero_add,Nat.add_zero,Nat.mul_one,Int.reduceToNat,Int.toNat_natCast,Int.cast_ofNat_Int,Int.reduceLE,Int.reduceLT,Int.reduceEq,reduceCtorEq,↓reduceIte,Bool.true_eq_false,Bool.false_eq_true,Bool.not_true,Bool.not_false,true_and,and_true,and_assoc,qaj,sub1,qc8,qc7,qc9,List.length_replicate,Nat.le_refl,forall_const,false_implies,true_implies,ne_eq,not_true_eq_false,not_false_eq_true,decide_true,decide_false,decide_eq_true_eq,decide_eq_false_iff_not,Bool.not_eq_true',Bool.not_eq_false',implies_true]
  refine awp_loopK hA (fun x : Nat × List Int => ⟨[.slice 4 0 1 a.length a.length, .undef, .ptr 5 0, .ptr 6 0, .int .i64 x.1] ++ List.replicate 16 .undef, [.dead, .dead, .dead, .dead, .ints true .u32 a, .ints false .u8 (List.replicate 32 0), .ints false .u8 x.2]⟩)
    (fun x => x.1 ≤ 32 ∧ x.2.length = 32 ∧ ∀ j,j < x.1 → getI x.2 j = getI (dig 256 32 (val 65536 a)) j) (fun x => 32 - x.1) (0,List.replicate 32 0) (by simp only [↓qax,↓qay,↓qa0,↓qaz,↓qcs,↓qbj,↓qa1,↓qcl,↓qb3,↓qci,↓qcb,↓qce,↓qcf,↓qb4,↓qcd,↓qcj,↓qb5,↓qcg,↓qch,↓qb6,↓qcc,↓qca,↓qb9,↓qb8,↓qb7,↓qa5,↓qbc,↓qa6,↓qbd,↓qa7,↓qbe,↓qa8,↓qbf,↓qa9,↓qbg,↓qba,↓qbh,↓qbb,↓qbi,↓qb2,↓qck,↓qcr,↓qco,↓qcp,↓qcq,↓qcn,↓qcm,↓qbm,↓qbn,↓qb0,↓qbv,↓qbq,↓qbu,↓qbz,↓qbw,↓qby,↓qbx,↓qbr,↓qbp,↓qb1,↓qbs,↓qbt,↓qbo,↓qa2,↓qa3,↓qa4,↓qbk,↓qbl,↓qex,↓qew,↓qet,↓qeu,↓qe2,↓qe1,↓qe0,qc5,↓qeq,↓qer,↓qev,↓qc4,↓qc2,↓qc3,↓qe7,↓qe8,↓qe9,↓qe6,qaa,↓qes,↓qef,↓qeg,↓qfb,↓qfa,↓qei,↓qdk,↓qds,↓qdu,↓qdt,↓qd9,↓qea,↓qen,↓qeo,↓qdo,↓qdp,↓qdr,↓qdq,↓qdx,↓qep,↓qdv,↓qej,↓qdn,↓qed,↓qek,↓qel,↓qem,↓qd1,↓qd0,↓qd2,↓qd3,↓qd5,↓qdz,↓qd6,↓qd8,↓qd7,↓qdl,↓qdm,↓qdy,↓qaw,↓qdw,↓qee,↓qec,↓qdj,↓qeh,↓qeb,↓qd4,qav,qau,evs,evp,mkB,repB,fill,blen,qae,qad,qac,qab,qc1,qc0,qdg,qdi,qde,qdf,qcx,qcz,qcv,qcw,↓qdc,↓qdb,↓qdd,↓qah,↓qag,↓qai,↓retQ,res,resAll,resOne,kill,apartOk,exp,injV,injB,pur,purs,purR,pursR,List.set_cons_zero,List.set_cons_succ,List.length_cons,List.length_nil,List.cons_append,List.nil_append,List.append_nil,List.append_assoc,List.length_append,List.reduceReplicate,Nat.reduceAdd,Nat.reduceMul,Nat.reduceSub,Nat.reduceEqDiff,Nat.reduceLT,Nat.zero_add,Nat.add_zero,Nat.mul_one,Int.reduceToNat,Int.toNat_natCast,Int.cast_ofNat_Int,Int.reduceLE,Int.reduceLT,Int.reduceEq,reduceCtorEq,↓reduceIte,Bool.true_eq_false,Bool.false_eq_true,Bool.not_true,Bool.not_false,true_and,and_true,and_assoc,qaj,sub1,qc8,qc7,qc9,List.length_replicate,Nat.le_refl,forall_const,false_implies,true_implies,ne_eq,not_true_eq_false,not_false_eq_true,decide_true,decide_false,decide_eq_true_eq,decide_eq_false_iff_not,Bool.not_eq_true',Bool.not_eq_false',implies_true]; try rfl) ⟨by simp,by simp,by simp⟩ ?_
  rintro ⟨i, m⟩ ⟨h1, h2, h3⟩ K hK
  simp only [] at h1 h2 h3
  simp only [s77,F77,↓qax,↓qay,↓qa0,↓qaz,↓qcs,↓qbj,↓qa1,↓qcl,↓qb3,↓qci,↓qcb,↓qce,↓qcf,↓qb4,↓qcd,↓qcj,↓qb5,↓qcg,↓qch,↓qb6,↓qcc,↓qca,↓qb9,↓qb8,↓qb7,↓qa5,↓qbc,↓qa6,↓qbd,↓qa7,↓qbe,↓qa8,↓qbf,↓qa9,↓qbg,↓qba,↓qbh,↓qbb,↓qbi,↓qb2,↓qck,↓qcr,↓qco,↓qcp,↓qcq,↓qcn,↓qcm,↓qbm,↓qbn,↓qb0,↓qbv,↓qbq,↓qbu,↓qbz,↓qbw,↓qby,↓qbx,↓qbr,↓qbp,↓qb1,↓qbs,↓qbt,↓qbo,↓qa2,↓qa3,↓qa4,↓qbk,↓qbl,↓qex,↓qew,↓qet,↓qeu,↓qe2,↓qe1,↓qe0,qc5,↓qeq,↓qer,↓qev,↓qc4,↓qc2,↓qc3,↓qe7,↓qe8,↓qe9,↓qe6,qaa,↓qes,↓qef,↓qeg,↓qfb,↓qfa,↓qei,↓qdk,↓qds,↓qdu,↓qdt,↓qd9,↓qea,↓qen,↓qeo,↓qdo,↓qdp,↓qdr,↓qdq,↓qdx,↓qep,↓qdv,↓qej,↓qdn,↓qed,↓qek,↓qel,↓qem,↓qd1,↓qd0,↓qd2,↓qd3,↓qd5,↓qdz,↓qd6,↓qd8,↓qd7,↓qdl,↓qdm,↓qdy,↓qaw,↓qdw,↓qee,↓qec,↓qdj,↓qeh,↓qeb,↓qd4,qav,qau,evs,evp,mkB,repB,fill,blen,qae,qad,qac,qab,qc1,qc0,qdg,qdi,qde,qdf,qcx,qcz,qcv,qcw,↓qdc,↓qdb,↓qdd,↓qah,↓qag,↓qai,↓retQ,res,resAll,resOne,kill,apartOk,exp,injV,injB,pur,purs,purR,pursR,List.set_cons_zero,List.set_cons_succ,List.length_cons,List.length_nil,List.cons_append,List.nil_append,List.append_nil,List.append_assoc,List.length_append,List.reduceReplicate,Nat.reduceAdd,Nat.reduceMul,Nat.reduceSub,Nat.reduceEqDiff,Nat.reduceLT,Nat.zero_add,Nat.add_zero,Nat.mul_one,Int.reduceToNat,Int.toNat_natCast,Int.cast_ofNat_Int,Int.reduceLE,Int.reduceLT,Int.reduceEq,reduceCtorEq,↓reduceIte,Bool.true_eq_false,Bool.false_eq_true,Bool.not_true,Bool.not_false,true_and,and_true,and_assoc,qaj,sub1,qc8,qc7,qc9,List.length_replicate,Nat.le_refl,forall_const,false_implies,true_implies,ne_eq,not_true_eq_false,not_false_eq_true,decide_true,decide_false,decide_eq_true_eq,decide_eq_false_iff_not,Bool.not_eq_true',Bool.not_eq_false',implies_true]
  refine ⟨fun hi => ?_, fun hi => ?_⟩
  · try simp only [decide_eq_true_eq] at hi
    have hi : i < 32 := by omega
    have hq : Go.IntKind.i64.wrap ((i : Int).tdiv 2) = ((i / 2 : Nat) : Int) := by rw [wrap_i64, Int.tdiv_eq_ediv_of_nonneg (by omega)]; omega
    have hr : Go.IntKind.i64.wrap (8 * (i : Int).tmod 2) = ((8 * (i % 2) : Nat) : Int) := by rw [wrap_i64, Int.tmod_eq_emod_of_nonneg (by omega)]; omega
    have hw' : Go.IntKind.i64.wrap ((i : Int) + 1) = ((i + 1 : Nat) : Int) := by rw [wrap_i64]; omega
    have hb := byte_of16 ha (i := i) (N := 32) hi
    have hpb := part_bound ha (i / 2)
    have hsub : sub a 0 a.length = a := qda rfl
    rw [hq, hr, hw']
    try simp only [hsub,↓qax,↓qay,↓qa0,↓qaz,↓qcs,↓qbj,↓qa1,↓qcl,↓qb3,↓qci,↓qcb,↓qce,↓qcf,↓qb4,↓qcd,↓qcj,↓qb5,↓qcg,↓qch,↓qb6,↓qcc,↓qca,↓qb9,↓qb8,↓qb7,↓qa5,↓qbc,↓qa6,↓qbd,↓qa7,↓qbe,↓qa8,↓qbf,↓qa9,↓qbg,↓qba,↓qbh,↓qbb,↓qbi,↓qb2,↓qck,↓qcr,↓qco,↓qcp,↓qcq,↓qcn,↓qcm,↓qbm,↓qbn,↓qb0,↓qbv,↓qbq,↓qbu,↓qbz,↓qbw,↓qby,↓qbx,↓qbr,↓qbp,↓qb1,↓qbs,↓qbt,↓qbo,↓qa2,↓qa3,↓qa4,↓qbk,↓qbl,↓qex,↓qew,↓qet,↓qeu,↓qe2,↓qe1,↓qe0,qc5,↓qeq,↓qer,↓qev,↓qc4,↓qc2,↓qc3,↓qe7,↓qe8,↓qe9,↓qe6,qaa,↓qes,↓qef,↓qeg,↓qfb,↓qfa,↓qei,↓qdk,↓qds,↓qdu,↓qdt,↓qd9,↓qea,↓qen,↓qeo,↓qdo,↓qdp,↓qdr,↓qdq,↓qdx,↓qep,↓qdv,↓qej,↓qdn,↓qed,↓qek,↓qel,↓qem,↓qd1,↓qd0,↓qd2,↓qd3,↓qd5,↓qdz,↓qd6,↓qd8,↓qd7,↓qdl,↓qdm,↓qdy,↓qaw,↓qdw,↓qee,↓qec,↓qdj,↓qeh,↓qeb,↓qd4,qav,qau,evs,evp,mkB,repB,fill,blen,qae,qad,qac,qab,qc1,qc0,qdg,qdi,qde,qdf,qcx,qcz,qcv,qcw,↓qdc,↓qdb,↓qdd,↓qah,↓qag,↓qai,↓retQ,res,resAll,resOne,kill,apartOk,exp,injV,injB,pur,purs,purR,pursR,List.set_cons_zero,List.set_cons_succ,List.length_cons,List.length_nil,List.cons_append,List.nil_append,List.append_nil,List.append_assoc,List.length_append,List.reduceReplicate,Nat.reduceAdd,Nat.reduceMul,Nat.reduceSub,Nat.reduceEqDiff,Nat.reduceLT,Nat.zero_add,Nat.add_zero,Nat.mul_one,Int.reduceToNat,Int.toNat_natCast,Int.cast_ofNat_Int,Int.reduceLE,Int.reduceLT,Int.reduceEq,reduceCtorEq,↓reduceIte,Bool.true_eq_false,Bool.false_eq_true,Bool.not_true,Bool.not_false,true_and,and_true,and_assoc,qaj,sub1,qc8,qc7,qc9,List.length_replicate,Nat.le_refl,forall_const,false_implies,true_implies,ne_eq,not_true_eq_false,not_false_eq_true,decide_true,decide_false,decide_eq_true_eq,decide_eq_false_iff_not,Bool.not_eq_true',Bool.not_eq_false',implies_true]
    have hs : Go.IntKind.u8.wrap (iShr .u32 (getI a (i / 2)) ((8 * (i % 2) : Nat) : Int)) = getI (dig 256 32 (val 65536 a)) i := by
      rw [hb, wrap_u8, iShr_eq, Int.toNat_natCast, Nat.min_eq_left (by simp only [Go.IntKind.bits]; omega)]
    rw [hs]
    repeat (refine And.intro (by first | omega | rfl) ?_)
    refine ⟨⟨a, i / 2, rfl⟩, ?_⟩
    repeat (refine And.intro (by first | omega | rfl) ?_)
    refine ⟨(i + 1, m.set i _), hK _ (⟨by simp only []; omega, by simpa using h2, fun j hj => ?_⟩) (by simp only []; omega), rfl⟩
    rw [getI_set _ _ _ _ (by omega)]
    split
    · rename_i h; rw [h]
    · exact h3 j (by simp only [] at hj; omega)
  · try simp only [decide_eq_false_iff_not] at hi
    have hm : m = dig 256 32 (val 65536 a) := getI_ext (by rw [h2, qaj]) fun j hj => h3 j (by omega)
    simp only [qda, qc6, qaj, List.length_cons, List.length_nil, Nat.reduceAdd, Nat.le_refl, Nat.reduceLeDiff, Nat.reduceLT, true_and, and_true, h2, List.length_replicate]
    exact out_ints hm
end Am
set_option linter.unusedSimpArgs false
set_option linter.unusedVariables false
set_option maxRecDepth 20000
namespace Am
open Go.Proofs
theorem bOr_comm (k : Go.IntKind) (a b : Int) : bOr k a b = bOr k b a := by unfold bOr; rw [BitVec.or_comm]
/-- A byte laid into a number of parts of 16 bits. -/
theorem of_step {b : List Int} (hb : Dig 256 b) {i m : Nat} (hi : i < b.length) (hm : b.length ≤ 2 * m) :
    (dig 65536 m (val 256 (b.take i))).set (i / 2) (bOr .u32 (getI (dig 65536 m (val 256 (b.take i))) (i / 2)) (iShl .u32 (Go.IntKind.u32.wrap (getI b i)) ((8 * (i % 2) : Nat) : Int))) = dig 65536 m (val 256 (b.take (i + 1))) := by
  have hbi := hb.get hi
  have hbd := val_take_bound (by decide : (0 : Int) < 256) hb i
  have hq : i / 2 < m := by omega
  have hp : (65536 : Int) ^ (i / 2) * 256 ^ (i % 2) = 256 ^ i := by
    conv => rhs; rw [← Nat.div_add_mod i 2, Int.pow_add, Int.pow_mul]
    rfl
  have hg : getI (dig 65536 m (val 256 (b.take i))) (i / 2) = val 256 (b.take i) / 65536 ^ (i / 2) % 65536 := getI_dig (by decide) hq
  have hdiv : 0 ≤ val 256 (b.take i) / 65536 ^ (i / 2) ∧ val 256 (b.take i) / 65536 ^ (i / 2) < 256 ^ (i % 2) := by
    refine ⟨Int.ediv_nonneg hbd.1 (Int.le_of_lt (Int.pow_pos (by decide))), ?_⟩
    refine Int.ediv_lt_of_lt_mul (Int.pow_pos (by decide)) ?_
    rw [Int.mul_comm, hp]; exact hbd.2
  have hcap : (256 : Int) ^ b.length ≤ 65536 ^ m := by
    have : (65536 : Int) ^ m = 256 ^ (2 * m) := by rw [Int.pow_mul]; rfl
    rw [this]
    obtain ⟨d, hd⟩ := Nat.exists_eq_add_of_le hm
    rw [hd, Int.pow_add]
    have h2 : (1 : Int) ≤ 256 ^ d := Int.pow_pos (by decide)
    have h3 := Int.mul_le_mul_of_nonneg_left h2 (Int.le_of_lt (pow_pos' (by decide : (0 : Int) < 256) b.length))
    omega
  have hor : bOr .u32 (getI (dig 65536 m (val 256 (b.take i))) (i / 2)) (iShl .u32 (Go.IntKind.u32.wrap (getI b i)) ((8 * (i % 2) : Nat) : Int)) = getI (dig 65536 m (val 256 (b.take i))) (i / 2) + getI b i * 256 ^ (i % 2) := by
    rw [hg]
    have h2 : i % 2 < 2 := Nat.mod_lt _ (by decide)
    generalize val 256 (b.take i) / 65536 ^ (i / 2) = y at hdiv
    generalize i % 2 = r at h2 hdiv
    rcases (by omega : r = 0 ∨ r = 1) with rfl | rfl
    · have hy : y = 0 := by simp at hdiv; omega
      subst hy
      have := bOr_add .u32 8 0 (getI b i) (by omega) (by decide) (by decide) hbi.1 hbi.2 (by decide) rfl
      simp [iShl, wrap_u32, Go.IntKind.bits]
      rw [Int.emod_eq_of_lt hbi.1 (by omega), this]; omega
    · have hs : iShl .u32 (Go.IntKind.u32.wrap (getI b i)) ((8 * 1 : Nat) : Int) = getI b i * 256 := by
        simp [iShl, wrap_u32, Go.IntKind.bits]; omega
      rw [hs, bOr_comm]
      simp at hdiv
      rw [Int.emod_eq_of_lt hdiv.1 (by omega)]
      have := bOr_add .u32 8 (getI b i * 256) y (by omega) (by simp only [Go.IntKind.bits]; omega) (by omega) hdiv.1 (by omega) (by decide) rfl
      rw [this]; omega
  rw [hor]
  have hlow : getI (dig 65536 m (val 256 (b.take i))) (i / 2) + getI b i * 256 ^ (i % 2) < 65536 ∧ 0 ≤ getI (dig 65536 m (val 256 (b.take i))) (i / 2) + getI b i * 256 ^ (i % 2) := by
    rw [hg]
    have h2 : i % 2 < 2 := Nat.mod_lt _ (by decide)
    generalize val 256 (b.take i) / 65536 ^ (i / 2) = y at hdiv
    generalize i % 2 = r at h2 hdiv
    rcases (by omega : r = 0 ∨ r = 1) with rfl | rfl <;> simp at hdiv ⊢ <;> omega
  refine dig_of (by decide) ((dig_dig (by decide) _ _).set _ hlow.2 hlow.1) (by simp [qaj]) ?_
  have hlt : val 256 (b.take i) < 65536 ^ m := by
    have := val_lt_pow (by decide : (0 : Int) < 256) (hb.take i) (n := b.length) (by simp; omega)
    omega
  rw [val_set _ _ _ _ (by rw [qaj]; exact hq), val_dig (by decide) hbd.1 hlt, val_take_succ', ← hp, Int.mul_assoc, Int.mul_comm (256 ^ _)]
  congr 2; omega
def pre29 (ds : List D) : Prop := ∃ b, ds = [.s .u8 b] ∧ Dig 256 b ∧ b.length ≤ 65536
def F29 : List D → Out
  | [.s _ b] => .one (.s .u32 (dig 65536 ((b.length + 1) / 2) (val 256 b)))
  | _ => bad
def s29 : Summ := sData [.s .u8] pre29 F29
theorem ok29 : SumOK Try.prog gl 29 s29 ∧ SumAbs s29 := by
  refine fsum (l := []) mixed gl_plain rfl Try.func29 comp29 compR29 nt29 (by simp) fun ds ⟨b, hd, hb, hlen⟩ hA => ?_
  subst hd
  simp only [ir29,rs29,gl,F29,↓qax,↓qay,↓qa0,↓qaz,↓qcs,↓qbj,↓qa1,↓qcl,↓qb3,↓qci,↓qcb,↓qce,↓qcf,↓qb4,↓qcd,↓qcj,↓qb5,↓qcg,↓qch,↓qb6,↓qcc,↓qca,↓qb9,↓qb8,↓qb7,↓qa5,↓qbc,↓qa6,↓qbd,↓qa7,↓qbe,↓qa8,↓qbf,↓qa9,↓qbg,↓qba,↓qbh,↓qbb,↓qbi,↓qb2,↓qck,↓qcr,↓qco,↓qcp,↓qcq,↓qcn,↓qcm,↓qbm,↓qbn,↓qb0,↓qbv,↓qbq,↓qbu,↓qbz,↓qbw,↓qby,↓qbx,↓qbr,↓qbp,↓qb1,↓qbs,↓qbt,↓qbo,↓qa2,↓qa3,↓qa4,↓qbk,↓qbl,↓qex,↓qew,↓qet,↓qeu,↓qe2,↓qe1,↓qe0,qc5,↓qeq,↓qer,↓qev,↓qc4,↓qc2,↓qc3,↓qe7,↓qe8,↓qe9,↓qe6,qaa,↓qes,↓qef,↓qeg,↓qfb,↓qfa,↓qei,↓qdk,↓qds,↓qdu,↓qdt,↓qd9,↓qea,↓qen,↓qeo,↓qdo,↓qdp,↓qdr,↓qdq,↓qdx,↓qep,↓qdv,↓qej,↓qdn,↓qed,↓qek,↓qel,↓qem,↓qd1,↓qd0,↓qd2,↓qd3,↓qd5,↓qdz,↓qd6,↓qd8,↓qd7,↓qdl,↓qdm,↓qdy,↓qaw,↓qdw,↓qee,↓qec,↓qdj,↓qeh,↓qeb,↓qd4,qav,qau,evs,evp,mkB,repB,fill,blen,qae,qad,qac,qab,qc1,qc0,qdg,qdi,qde,qdf,qcx,qcz,qcv,qcw,↓qdc,↓qdb,↓qdd,↓qah,↓qag,↓qai,↓retQ,res,resAll,resOne,kill,apartOk,exp,injV,injB,pur,purs,purR,pursR,List.set_cons_zero,List.set_cons_succ,List.length_cons,List.length_nil,List.cons_append,List.nil_append,List.append_nil,List.append_assoc,List.length_append,List.reduceReplicate,Nat.reduceAdd,Nat.reduceMul,Nat.reduceSub,Nat.reduceEqDiff,Nat.reduceLT,Nat.zero_add,Nat.add_zero,Nat.mul_one,Int.reduceToNat,Int.toNat_natCast,Int.cast_ofNat_Int,Int.reduceLE,Int.reduceLT,Int.reduceEq,reduceCtorEq,↓reduceIte,Bool.true_eq_false,Bool.false_eq_true,Bool.not_true,Bool.not_false,true_and,and_true,and_assoc,qaj,sub1,qc8,qc7,qc9,List.length_replicate,Nat.le_refl,forall_const,false_implies,true_implies,ne_eq,not_true_eq_false,not_false_eq_true,decide_true,decide_false,decide_eq_true_eq,decide_eq_false_iff_not,Bool.not_eq_true',Bool.not_eq_false',implies_true]
  have hm : Go.IntKind.i64.wrap ((Go.IntKind.i64.wrap ((b.length : Int) + 1)).tdiv 2) = (((b.length + 1) / 2 : Nat) : Int) := by
    rw [w64_inc (by omega)]; exact w64_div (k := 2) (by omega)
  rw [hm]
  try simp only [↓qax,↓qay,↓qa0,↓qaz,↓qcs,↓qbj,↓qa1,↓qcl,↓qb3,↓qci,↓qcb,↓qce,↓qcf,↓qb4,↓qcd,↓qcj,↓qb5,↓qcg,↓qch,↓qb6,↓qcc,↓qca,↓qb9,↓qb8,↓qb7,↓qa5,↓qbc,↓qa6,↓qbd,↓qa7,↓qbe,↓qa8,↓qbf,↓qa9,↓qbg,↓qba,↓qbh,↓qbb,↓qbi,↓qb2,↓qck,↓qcr,↓qco,↓qcp,↓qcq,↓qcn,↓qcm,↓qbm,↓qbn,↓qb0,↓qbv,↓qbq,↓qbu,↓qbz,↓qbw,↓qby,↓qbx,↓qbr,↓qbp,↓qb1,↓qbs,↓qbt,↓qbo,↓qa2,↓qa3,↓qa4,↓qbk,↓qbl,↓qex,↓qew,↓qet,↓qeu,↓qe2,↓qe1,↓qe0,qc5,↓qeq,↓qer,↓qev,↓qc4,↓qc2,↓qc3,↓qe7,↓qe8,↓qe9,↓qe6,qaa,↓qes,↓qef,↓qeg,↓qfb,↓qfa,↓qei,↓qdk,↓qds,↓qdu,↓qdt,↓qd9,↓qea,↓qen,↓qeo,↓qdo,↓qdp,↓qdr,↓qdq,↓qdx,↓qep,↓qdv,↓qej,↓qdn,↓qed,↓qek,↓qel,↓qem,↓qd1,↓qd0,↓qd2,↓qd3,↓qd5,↓qdz,↓qd6,↓qd8,↓qd7,↓qdl,↓qdm,↓qdy,↓qaw,↓qdw,↓qee,↓qec,↓qdj,↓qeh,↓qeb,↓qd4,qav,qau,evs,evp,mkB,repB,fill,blen,qae,qad,qac,qab,qc1,qc0,qdg,qdi,qde,qdf,qcx,qcz,qcv,qcw,↓qdc,↓qdb,↓qdd,↓qah,↓qag,↓qai,↓retQ,res,resAll,resOne,kill,apartOk,exp,injV,injB,pur,purs,purR,pursR,List.set_cons_zero,List.set_cons_succ,List.length_cons,List.length_nil,List.cons_append,List.nil_append,List.append_nil,List.append_assoc,List.length_append,List.reduceReplicate,Nat.reduceAdd,Nat.reduceMul,Nat.reduceSub,Nat.reduceEqDiff,Nat.reduceLT,Nat.zero_add,Nat.add_zero,Nat.mul_one,Int.reduceToNat,Int.toNat_natCast,Int.cast_ofNat_Int,Int.reduceLE,Int.reduceLT,Int.reduceEq,reduceCtorEq,↓reduceIte,Bool.true_eq_false,Bool.false_eq_true,Bool.not_true,Bool.not_false,true_and,and_true,and_assoc,qaj,sub1,qc8,qc7,qc9,List.length_replicate,Nat.le_refl,forall_const,false_implies,true_implies,ne_eq,not_true_eq_false,not_false_eq_true,decide_true,decide_false,decide_eq_true_eq,decide_eq_false_iff_not,Bool.not_eq_true',Bool.not_eq_false',implies_true]
  repeat (refine And.intro (by first | omega | rfl) ?_)
  refine awp_loopK hA (fun i : Nat => ⟨[.slice 4 0 1 b.length b.length, .undef, .undef, .slice 5 0 1 ((b.length + 1) / 2) ((b.length + 1) / 2), .int .i64 i] ++ List.replicate 31 .undef, [.dead, .dead, .dead, .dead, .ints true .u8 b, .ints false .u32 (dig 65536 ((b.length + 1) / 2) (val 256 (b.take i)))]⟩)
    (fun i => i ≤ b.length) (fun i => b.length - i) 0 (by simp only [val_take_zero,dig_zero,↓qax,↓qay,↓qa0,↓qaz,↓qcs,↓qbj,↓qa1,↓qcl,↓qb3,↓qci,↓qcb,↓qce,↓qcf,↓qb4,↓qcd,↓qcj,↓qb5,↓qcg,↓qch,↓qb6,↓qcc,↓qca,↓qb9,↓qb8,↓qb7,↓qa5,↓qbc,↓qa6,↓qbd,↓qa7,↓qbe,↓qa8,↓qbf,↓qa9,↓qbg,↓qba,↓qbh,↓qbb,↓qbi,↓qb2,↓qck,↓qcr,↓qco,↓qcp,↓qcq,↓qcn,↓qcm,↓qbm,↓qbn,↓qb0,↓qbv,↓qbq,↓qbu,↓qbz,↓qbw,↓qby,↓qbx,↓qbr,↓qbp,↓qb1,↓qbs,↓qbt,↓qbo,↓qa2,↓qa3,↓qa4,↓qbk,↓qbl,↓qex,↓qew,↓qet,↓qeu,↓qe2,↓qe1,↓qe0,qc5,↓qeq,↓qer,↓qev,↓qc4,↓qc2,↓qc3,↓qe7,↓qe8,↓qe9,↓qe6,qaa,↓qes,↓qef,↓qeg,↓qfb,↓qfa,↓qei,↓qdk,↓qds,↓qdu,↓qdt,↓qd9,↓qea,↓qen,↓qeo,↓qdo,↓qdp,↓qdr,↓qdq,↓qdx,↓qep,↓qdv,↓qej,↓qdn,↓qed,↓qek,↓qel,↓qem,↓qd1,↓qd0,↓qd2,↓qd3,↓qd5,↓qdz,↓qd6,↓qd8,↓qd7,↓qdl,↓qdm,↓qdy,↓qaw,↓qdw,↓qee,↓qec,↓qdj,↓qeh,↓qeb,↓qd4,qav,qau,evs,evp,mkB,repB,fill,blen,qae,qad,qac,qab,qc1,qc0,qdg,qdi,qde,qdf,qcx,qcz,qcv,qcw,↓qdc,↓qdb,↓qdd,↓qah,↓qag,↓qai,↓retQ,res,resAll,resOne,kill,apartOk,exp,injV,injB,pur,purs,purR,pursR,List.set_cons_zero,List.set_cons_succ,List.length_cons,List.length_nil,List.cons_append,List.nil_append,List.append_nil,List.append_assoc,List.length_append,List.reduceReplicate,Nat.reduceAdd,Nat.reduceMul,Nat.reduceSub,Nat.reduceEqDiff,Nat.reduceLT,Nat.zero_add,Nat.add_zero,Nat.mul_one,Int.reduceToNat,Int.toNat_natCast,Int.cast_ofNat_Int,Int.reduceLE,Int.reduceLT,Int.reduceEq,reduceCtorEq,↓reduceIte,Bool.true_eq_false,Bool.false_eq_true,Bool.not_true,Bool.not_false,true_and,and_true,and_assoc,qaj,sub1,qc8,qc7,qc9,List.length_replicate,Nat.le_refl,forall_const,false_implies,true_implies,ne_eq,not_true_eq_false,not_false_eq_true,decide_true,decide_false,decide_eq_true_eq,decide_eq_false_iff_not,Bool.not_eq_true',Bool.not_eq_false',implies_true]; try rfl) (by omega) fun i hi K hK => ?_
  simp only [↓qax,↓qay,↓qa0,↓qaz,↓qcs,↓qbj,↓qa1,↓qcl,↓qb3,↓qci,↓qcb,↓qce,↓qcf,↓qb4,↓qcd,↓qcj,↓qb5,↓qcg,↓qch,↓qb6,↓qcc,↓qca,↓qb9,↓qb8,↓qb7,↓qa5,↓qbc,↓qa6,↓qbd,↓qa7,↓qbe,↓qa8,↓qbf,↓qa9,↓qbg,↓qba,↓qbh,↓qbb,↓qbi,↓qb2,↓qck,↓qcr,↓qco,↓qcp,↓qcq,↓qcn,↓qcm,↓qbm,↓qbn,↓qb0,↓qbv,↓qbq,↓qbu,↓qbz,↓qbw,↓qby,↓qbx,↓qbr,↓qbp,↓qb1,↓qbs,↓qbt,↓qbo,↓qa2,↓qa3,↓qa4,↓qbk,↓qbl,↓qex,↓qew,↓qet,↓qeu,↓qe2,↓qe1,↓qe0,qc5,↓qeq,↓qer,↓qev,↓qc4,↓qc2,↓qc3,↓qe7,↓qe8,↓qe9,↓qe6,qaa,↓qes,↓qef,↓qeg,↓qfb,↓qfa,↓qei,↓qdk,↓qds,↓qdu,↓qdt,↓qd9,↓qea,↓qen,↓qeo,↓qdo,↓qdp,↓qdr,↓qdq,↓qdx,↓qep,↓qdv,↓qej,↓qdn,↓qed,↓qek,↓qel,↓qem,↓qd1,↓qd0,↓qd2,↓qd3,↓qd5,↓qdz,↓qd6,↓qd8,↓qd7,↓qdl,↓qdm,↓qdy,↓qaw,↓qdw,↓qee,↓qec,↓qdj,↓qeh,↓qeb,↓qd4,qav,qau,evs,evp,mkB,repB,fill,blen,qae,qad,qac,qab,qc1,qc0,qdg,qdi,qde,qdf,qcx,qcz,qcv,qcw,↓qdc,↓qdb,↓qdd,↓qah,↓qag,↓qai,↓retQ,res,resAll,resOne,kill,apartOk,exp,injV,injB,pur,purs,purR,pursR,List.set_cons_zero,List.set_cons_succ,List.length_cons,List.length_nil,List.cons_append,List.nil_append,List.append_nil,List.append_assoc,List.length_append,List.reduceReplicate,Nat.reduceAdd,Nat.reduceMul,Nat.reduceSub,Nat.reduceEqDiff,Nat.reduceLT,Nat.zero_add,Nat.add_zero,Nat.mul_one,Int.reduceToNat,Int.toNat_natCast,Int.cast_ofNat_Int,Int.reduceLE,Int.reduceLT,Int.reduceEq,reduceCtorEq,↓reduceIte,Bool.true_eq_false,Bool.false_eq_true,Bool.not_true,Bool.not_false,true_and,and_true,and_assoc,qaj,sub1,qc8,qc7,qc9,List.length_replicate,Nat.le_refl,forall_const,false_implies,true_implies,ne_eq,not_true_eq_false,not_false_eq_true,decide_true,decide_false,decide_eq_true_eq,decide_eq_false_iff_not,Bool.not_eq_true',Bool.not_eq_false',implies_true]
  refine ⟨fun h => ?_, fun h => ?_⟩
  · have hi : i < b.length := by omega
    rw [w64_div2 (by omega), tmod2, w64_inc (by omega), w64 (n := 8 * _) (by omega) (by omega), show (8 : Int) * ((i % 2 : Nat) : Int) = ((8 * (i % 2) : Nat) : Int) by omega]
    simp only [qaj,↓qax,↓qay,↓qa0,↓qaz,↓qcs,↓qbj,↓qa1,↓qcl,↓qb3,↓qci,↓qcb,↓qce,↓qcf,↓qb4,↓qcd,↓qcj,↓qb5,↓qcg,↓qch,↓qb6,↓qcc,↓qca,↓qb9,↓qb8,↓qb7,↓qa5,↓qbc,↓qa6,↓qbd,↓qa7,↓qbe,↓qa8,↓qbf,↓qa9,↓qbg,↓qba,↓qbh,↓qbb,↓qbi,↓qb2,↓qck,↓qcr,↓qco,↓qcp,↓qcq,↓qcn,↓qcm,↓qbm,↓qbn,↓qb0,↓qbv,↓qbq,↓qbu,↓qbz,↓qbw,↓qby,↓qbx,↓qbr,↓qbp,↓qb1,↓qbs,↓qbt,↓qbo,↓qa2,↓qa3,↓qa4,↓qbk,↓qbl,↓qex,↓qew,↓qet,↓qeu,↓qe2,↓qe1,↓qe0,qc5,↓qeq,↓qer,↓qev,↓qc4,↓qc2,↓qc3,↓qe7,↓qe8,↓qe9,↓qe6,qaa,↓qes,↓qef,↓qeg,↓qfb,↓qfa,↓qei,↓qdk,↓qds,↓qdu,↓qdt,↓qd9,↓qea,↓qen,↓qeo,↓qdo,↓qdp,↓qdr,↓qdq,↓qdx,↓qep,↓qdv,↓qej,↓qdn,↓qed,↓qek,↓qel,↓qem,↓qd1,↓qd0,↓qd2,↓qd3,↓qd5,↓qdz,↓qd6,↓qd8,↓qd7,↓qdl,↓qdm,↓qdy,↓qaw,↓qdw,↓qee,↓qec,↓qdj,↓qeh,↓qeb,↓qd4,qav,qau,evs,evp,mkB,repB,fill,blen,qae,qad,qac,qab,qc1,qc0,qdg,qdi,qde,qdf,qcx,qcz,qcv,qcw,↓qdc,↓qdb,↓qdd,↓qah,↓qag,↓qai,↓retQ,res,resAll,resOne,kill,apartOk,exp,injV,injB,pur,purs,purR,pursR,List.set_cons_zero,List.set_cons_succ,List.length_cons,List.length_nil,List.cons_append,List.nil_append,List.append_nil,List.append_assoc,List.length_append,List.reduceReplicate,Nat.reduceAdd,Nat.reduceMul,Nat.reduceSub,Nat.reduceEqDiff,Nat.reduceLT,Nat.zero_add,Nat.add_zero,Nat.mul_one,Int.reduceToNat,Int.toNat_natCast,Int.cast_ofNat_Int,Int.reduceLE,Int.reduceLT,Int.reduceEq,reduceCtorEq,↓reduceIte,Bool.true_eq_false,Bool.false_eq_true,Bool.not_true,Bool.not_false,true_and,and_true,and_assoc,qaj,sub1,qc8,qc7,qc9,List.length_replicate,Nat.le_refl,forall_const,false_implies,true_implies,ne_eq,not_true_eq_false,not_false_eq_true,decide_true,decide_false,decide_eq_true_eq,decide_eq_false_iff_not,Bool.not_eq_true',Bool.not_eq_false',implies_true]
    repeat (refine And.intro (by first | omega | rfl) ?_)
    exact ⟨i + 1, hK _ (by omega) (by omega), by rw [of_step hb hi (by omega)]⟩
  · have hi : i = b.length := by omega
    subst hi
    simp only [List.take_length]
    exact out_sl (by simp only [qcv, qcw]) (by omega) (by simp [qaj]) (qda (qaj _ _ _))
def pre37 (ds : List D) : Prop := ∃ x, ds = [.v (.int .u32 x)] ∧ 0 ≤ x ∧ x < 4294967296
def F37 : List D → Out
  | [.v (.int _ x)] => .one (.s .u32 (dig 65536 2 x))
  | _ => bad
def s37 : Summ := sData [.v] pre37 F37
theorem ok37 : SumOK Try.prog gl 37 s37 ∧ SumAbs s37 := by
  refine fsum (l := []) mixed gl_plain rfl Try.func37 comp37 compR37 nt37 (by simp) fun ds ⟨x, hd, h0, h1⟩ hA => ?_
  subst hd
  simp only [ir37,rs37,gl,F37,↓qax,↓qay,↓qa0,↓qaz,↓qcs,↓qbj,↓qa1,↓qcl,↓qb3,↓qci,↓qcb,↓qce,↓qcf,↓qb4,↓qcd,↓qcj,↓qb5,↓qcg,↓qch,↓qb6,↓qcc,↓qca,↓qb9,↓qb8,↓qb7,↓qa5,↓qbc,↓qa6,↓qbd,↓qa7,↓qbe,↓qa8,↓qbf,↓qa9,↓qbg,↓qba,↓qbh,↓qbb,↓qbi,↓qb2,↓qck,↓qcr,↓qco,↓qcp,↓qcq,↓qcn,↓qcm,↓qbm,↓qbn,↓qb0,↓qbv,↓qbq,↓qbu,↓qbz,↓qbw,↓qby,↓qbx,↓qbr,↓qbp,↓qb1,↓qbs,↓qbt,↓qbo,↓qa2,↓qa3,↓qa4,↓qbk,↓qbl,↓qex,↓qew,↓qet,↓qeu,↓qe2,↓qe1,↓qe0,qc5,↓qeq,↓qer,↓qev,↓qc4,↓qc2,↓qc3,↓qe7,↓qe8,↓qe9,↓qe6,qaa,↓qes,↓qef,↓qeg,↓qfb,↓qfa,↓qei,↓qdk,↓qds,↓qdu,↓qdt,↓qd9,↓qea,↓qen,↓qeo,↓qdo,↓qdp,↓qdr,↓qdq,↓qdx,↓qep,↓qdv,↓qej,↓qdn,↓qed,↓qek,↓qel,↓qem,↓qd1,↓qd0,↓qd2,↓qd3,↓qd5,↓qdz,↓qd6,↓qd8,↓qd7,↓qdl,↓qdm,↓qdy,↓qaw,↓qdw,↓qee,↓qec,↓qdj,↓qeh,↓qeb,↓qd4,qav,qau,evs,evp,mkB,repB,fill,blen,qae,qad,qac,qab,qc1,qc0,qdg,qdi,qde,qdf,qcx,qcz,qcv,qcw,↓qdc,↓qdb,↓qdd,↓qah,↓qag,↓qai,↓retQ,res,resAll,resOne,kill,apartOk,exp,injV,injB,pur,purs,purR,pursR,List.set_cons_zero,List.set_cons_succ,List.length_cons,List.length_nil,List.cons_append,List.nil_append,List.append_nil,List.append_assoc,List.length_append,List.reduceReplicate,Nat.reduceAdd,Nat.reduceMul,Nat.reduceSub,Nat.reduceEqDiff,Nat.reduceLT,Nat.zero_add,Nat.add_zero,Nat.mul_one,Int.reduceToNat,Int.toNat_natCast,Int.cast_ofNat_Int,Int.reduceLE,Int.reduceLT,Int.reduceEq,reduceCtorEq,↓reduceIte,Bool.true_eq_false,Bool.false_eq_true,Bool.not_true,Bool.not_false,true_and,and_true,and_assoc,qaj,sub1,qc8,qc7,qc9,List.length_replicate,Nat.le_refl,forall_const,false_implies,true_implies,ne_eq,not_true_eq_false,not_false_eq_true,decide_true,decide_false,decide_eq_true_eq,decide_eq_false_iff_not,Bool.not_eq_true',Bool.not_eq_false',implies_true]
  rw [bAnd_ffff32 h0 h1]
  simp only [out, outs, out1, pur, purs, qcv, qcw, List.not_mem_nil, not_false_eq_true, true_and, and_true, Nat.reduceLeDiff, Nat.le_refl]
  simp [iShr_eq, Go.IntKind.bits, sub, dig]
  omega
def pre84 (ds : List D) : Prop := ∃ a b, ds = [.s .u32 a, .s .u32 b] ∧ Dig 65536 a ∧ Dig 65536 b ∧ a.length ≤ 4294967296 ∧ b.length ≤ 4294967296
def F84 : List D → Out
  | [.s _ a, .s _ b] => .one (.v (.bool (decide (val 65536 a < val 65536 b))))
  | _ => bad
def s84 : Summ := sData [.s .u32, .s .u32] pre84 F84
/-- Parts that are the same from a place on, and unlike there. -/
theorem less_at {a b : List Int} (ha : Dig 65536 a) (hb : Dig 65536 b) {i : Nat} (h : ∀ j, i < j → getI a j = getI b j) (hne : getI a i ≠ getI b i) : decide (getI a i < getI b i) = decide (val 65536 a < val 65536 b) := by
  rw [decide_eq_decide]
  rcases Int.lt_or_lt_of_ne hne with h1 | h1
  · exact ⟨fun _ => val_lt_at (by decide) ha hb h h1, fun _ => h1⟩
  · have := val_lt_at (by decide) hb ha (fun j hj => (h j hj).symm) h1
    exact ⟨fun h => by omega, fun h => by omega⟩
theorem ok84 : SumOK Try.prog gl 84 s84 ∧ SumAbs s84 := by
  refine fsum (l := [(77, s77)]) mixed gl_plain rfl Try.func84 comp84 compR84 nt84 (by simp only [List.mem_cons, List.not_mem_nil, or_false, forall_eq]; exact ok77) fun ds ⟨a, b, hd, ha, hb, hal, hbl⟩ hA => ?_
  subst hd
  simp only [s77]
  simp only [ir84,rs84,gl,F84,s77,F77,↓qax,↓qay,↓qa0,↓qaz,↓qcs,↓qbj,↓qa1,↓qcl,↓qb3,↓qci,↓qcb,↓qce,↓qcf,↓qb4,↓qcd,↓qcj,↓qb5,↓qcg,↓qch,↓qb6,↓qcc,↓qca,↓qb9,↓qb8,↓qb7,↓qa5,↓qbc,↓qa6,↓qbd,↓qa7,↓qbe,↓qa8,↓qbf,↓qa9,↓qbg,↓qba,↓qbh,↓qbb,↓qbi,↓qb2,↓qck,↓qcr,↓qco,↓qcp,↓qcq,↓qcn,↓qcm,↓qbm,↓qbn,↓qb0,↓qbv,↓qbq,↓qbu,↓qbz,↓qbw,↓qby,↓qbx,↓qbr,↓qbp,↓qb1,↓qbs,↓qbt,↓qbo,↓qa2,↓qa3,↓qa4,↓qbk,↓qbl,↓qex,↓qew,↓qet,↓qeu,↓qe2,↓qe1,↓qe0,qc5,↓qeq,↓qer,↓qev,↓qc4,↓qc2,↓qc3,↓qe7,↓qe8,↓qe9,↓qe6,qaa,↓qes,↓qef,↓qeg,↓qfb,↓qfa,↓qei,↓qdk,↓qds,↓qdu,↓qdt,↓qd9,↓qea,↓qen,↓qeo,↓qdo,↓qdp,↓qdr,↓qdq,↓qdx,↓qep,↓qdv,↓qej,↓qdn,↓qed,↓qek,↓qel,↓qem,↓qd1,↓qd0,↓qd2,↓qd3,↓qd5,↓qdz,↓qd6,↓qd8,↓qd7,↓qdl,↓qdm,↓qdy,↓qaw,↓qdw,↓qee,↓qec,↓qdj,↓qeh,↓qeb,↓qd4,qav,qau,evs,evp,mkB,repB,fill,blen,qae,qad,qac,qab,qc1,qc0,qdg,qdi,qde,qdf,qcx,qcz,qcv,qcw,↓qdc,↓qdb,↓qdd,↓qah,↓qag,↓qai,↓retQ,res,resAll,resOne,kill,apartOk,exp,injV,injB,pur,purs,purR,pursR,List.set_cons_zero,List.set_cons_succ,List.length_cons,List.length_nil,List.cons_append,List.nil_append,List.append_nil,List.append_assoc,List.length_append,List.reduceReplicate,Nat.reduceAdd,Nat.reduceMul,Nat.reduceSub,Nat.reduceEqDiff,Nat.reduceLT,Nat.zero_add,Nat.add_zero,Nat.mul_one,Int.reduceToNat,Int.toNat_natCast,Int.cast_ofNat_Int,Int.reduceLE,Int.reduceLT,Int.reduceEq,reduceCtorEq,↓reduceIte,Bool.true_eq_false,Bool.false_eq_true,Bool.not_true,Bool.not_false,true_and,and_true,and_assoc,qaj,sub1,qc8,qc7,qc9,List.length_replicate,Nat.le_refl,forall_const,false_implies,true_implies,ne_eq,not_true_eq_false,not_false_eq_true,decide_true,decide_false,decide_eq_true_eq,decide_eq_false_iff_not,Bool.not_eq_true',Bool.not_eq_false',implies_true]
  obtain ⟨m, hm, hma, hmb⟩ : ∃ m : Nat, (m = a.length ∨ m = b.length) ∧ a.length ≤ m ∧ b.length ≤ m := by
    rcases Nat.le_total a.length b.length with h | h
    · exact ⟨_, .inr rfl, h, Nat.le_refl _⟩
    · exact ⟨_, .inl rfl, Nat.le_refl _, h⟩
  have hfin : ∀ j, m ≤ j → getI a j = getI b j := fun j hj => by rw [getI_of_le (by omega), getI_of_le (by omega)]
  refine ⟨fun h => ?_, fun h => ?_⟩
  all_goals
    refine awp_loopK hA (fun n : Nat => ⟨[.slice 4 0 1 a.length a.length, .slice 5 0 1 b.length b.length, .undef, .undef, .undef, .undef, .int .i64 (n - 1)] ++ List.replicate 28 .undef, [.dead, .dead, .dead, .dead, .ints true .u32 a, .ints true .u32 b]⟩)
      (fun n => n ≤ 4294967296 ∧ ∀ j, n ≤ j → getI a j = getI b j) (fun n => n) m (by
        rw [w64_dec (by omega)]
        simp only [↓qax,↓qay,↓qa0,↓qaz,↓qcs,↓qbj,↓qa1,↓qcl,↓qb3,↓qci,↓qcb,↓qce,↓qcf,↓qb4,↓qcd,↓qcj,↓qb5,↓qcg,↓qch,↓qb6,↓qcc,↓qca,↓qb9,↓qb8,↓qb7,↓qa5,↓qbc,↓qa6,↓qbd,↓qa7,↓qbe,↓qa8,↓qbf,↓qa9,↓qbg,↓qba,↓qbh,↓qbb,↓qbi,↓qb2,↓qck,↓qcr,↓qco,↓qcp,↓qcq,↓qcn,↓qcm,↓qbm,↓qbn,↓qb0,↓qbv,↓qbq,↓qbu,↓qbz,↓qbw,↓qby,↓qbx,↓qbr,↓qbp,↓qb1,↓qbs,↓qbt,↓qbo,↓qa2,↓qa3,↓qa4,↓qbk,↓qbl,↓qex,↓qew,↓qet,↓qeu,↓qe2,↓qe1,↓qe0,qc5,↓qeq,↓qer,↓qev,↓qc4,↓qc2,↓qc3,↓qe7,↓qe8,↓qe9,↓qe6,qaa,↓qes,↓qef,↓qeg,↓qfb,↓qfa,↓qei,↓qdk,↓qds,↓qdu,↓qdt,↓qd9,↓qea,↓qen,↓qeo,↓qdo,↓qdp,↓qdr,↓qdq,↓qdx,↓qep,↓qdv,↓qej,↓qdn,↓qed,↓qek,↓qel,↓qem,↓qd1,↓qd0,↓qd2,↓qd3,↓qd5,↓qdz,↓qd6,↓qd8,↓qd7,↓qdl,↓qdm,↓qdy,↓qaw,↓qdw,↓qee,↓qec,↓qdj,↓qeh,↓qeb,↓qd4,qav,qau,evs,evp,mkB,repB,fill,blen,qae,qad,qac,qab,qc1,qc0,qdg,qdi,qde,qdf,qcx,qcz,qcv,qcw,↓qdc,↓qdb,↓qdd,↓qah,↓qag,↓qai,↓retQ,res,resAll,resOne,kill,apartOk,exp,injV,injB,pur,purs,purR,pursR,List.set_cons_zero,List.set_cons_succ,List.length_cons,List.length_nil,List.cons_append,List.nil_append,List.append_nil,List.append_assoc,List.length_append,List.reduceReplicate,Nat.reduceAdd,Nat.reduceMul,Nat.reduceSub,Nat.reduceEqDiff,Nat.reduceLT,Nat.zero_add,Nat.add_zero,Nat.mul_one,Int.reduceToNat,Int.toNat_natCast,Int.cast_ofNat_Int,Int.reduceLE,Int.reduceLT,Int.reduceEq,reduceCtorEq,↓reduceIte,Bool.true_eq_false,Bool.false_eq_true,Bool.not_true,Bool.not_false,true_and,and_true,and_assoc,qaj,sub1,qc8,qc7,qc9,List.length_replicate,Nat.le_refl,forall_const,false_implies,true_implies,ne_eq,not_true_eq_false,not_false_eq_true,decide_true,decide_false,decide_eq_true_eq,decide_eq_false_iff_not,Bool.not_eq_true',Bool.not_eq_false',implies_true]
        congr 9
        omega) ⟨by omega, hfin⟩ fun n ⟨hn, hsame⟩ K hK => ?_
    simp only [s77,F77,↓qax,↓qay,↓qa0,↓qaz,↓qcs,↓qbj,↓qa1,↓qcl,↓qb3,↓qci,↓qcb,↓qce,↓qcf,↓qb4,↓qcd,↓qcj,↓qb5,↓qcg,↓qch,↓qb6,↓qcc,↓qca,↓qb9,↓qb8,↓qb7,↓qa5,↓qbc,↓qa6,↓qbd,↓qa7,↓qbe,↓qa8,↓qbf,↓qa9,↓qbg,↓qba,↓qbh,↓qbb,↓qbi,↓qb2,↓qck,↓qcr,↓qco,↓qcp,↓qcq,↓qcn,↓qcm,↓qbm,↓qbn,↓qb0,↓qbv,↓qbq,↓qbu,↓qbz,↓qbw,↓qby,↓qbx,↓qbr,↓qbp,↓qb1,↓qbs,↓qbt,↓qbo,↓qa2,↓qa3,↓qa4,↓qbk,↓qbl,↓qex,↓qew,↓qet,↓qeu,↓qe2,↓qe1,↓qe0,qc5,↓qeq,↓qer,↓qev,↓qc4,↓qc2,↓qc3,↓qe7,↓qe8,↓qe9,↓qe6,qaa,↓qes,↓qef,↓qeg,↓qfb,↓qfa,↓qei,↓qdk,↓qds,↓qdu,↓qdt,↓qd9,↓qea,↓qen,↓qeo,↓qdo,↓qdp,↓qdr,↓qdq,↓qdx,↓qep,↓qdv,↓qej,↓qdn,↓qed,↓qek,↓qel,↓qem,↓qd1,↓qd0,↓qd2,↓qd3,↓qd5,↓qdz,↓qd6,↓qd8,↓qd7,↓qdl,↓qdm,↓qdy,↓qaw,↓qdw,↓qee,↓qec,↓qdj,↓qeh,↓qeb,↓qd4,qav,qau,evs,evp,mkB,repB,fill,blen,qae,qad,qac,qab,qc1,qc0,qdg,qdi,qde,qdf,qcx,qcz,qcv,qcw,↓qdc,↓qdb,↓qdd,↓qah,↓qag,↓qai,↓retQ,res,resAll,resOne,kill,apartOk,exp,injV,injB,pur,purs,purR,pursR,List.set_cons_zero,List.set_cons_succ,List.length_cons,List.length_nil,List.cons_append,List.nil_append,List.append_nil,List.append_assoc,List.length_append,List.reduceReplicate,Nat.reduceAdd,Nat.reduceMul,Nat.reduceSub,Nat.reduceEqDiff,Nat.reduceLT,Nat.zero_add,Nat.add_zero,Nat.mul_one,Int.reduceToNat,Int.toNat_natCast,Int.cast_ofNat_Int,Int.reduceLE,Int.reduceLT,Int.reduceEq,reduceCtorEq,↓reduceIte,Bool.true_eq_false,Bool.false_eq_true,Bool.not_true,Bool.not_false,true_and,and_true,and_assoc,qaj,sub1,qc8,qc7,qc9,List.length_replicate,Nat.le_refl,forall_const,false_implies,true_implies,ne_eq,not_true_eq_false,not_false_eq_true,decide_true,decide_false,decide_eq_true_eq,decide_eq_false_iff_not,Bool.not_eq_true',Bool.not_eq_false',implies_true]
    refine ⟨fun hi => ?_, fun hi => ?_⟩
    · obtain ⟨i, rfl⟩ : ∃ i, n = i + 1 := ⟨n - 1, by omega⟩
      have e1 : (((i + 1 : Nat) : Int) - 1) = (i : Int) := by omega
      have hab : sub a 0 a.length = a ∧ sub b 0 b.length = b := ⟨qda rfl, qda rfl⟩
      rw [e1, w64_dec (by omega)]
      try simp only [hab.1,hab.2,↓qax,↓qay,↓qa0,↓qaz,↓qcs,↓qbj,↓qa1,↓qcl,↓qb3,↓qci,↓qcb,↓qce,↓qcf,↓qb4,↓qcd,↓qcj,↓qb5,↓qcg,↓qch,↓qb6,↓qcc,↓qca,↓qb9,↓qb8,↓qb7,↓qa5,↓qbc,↓qa6,↓qbd,↓qa7,↓qbe,↓qa8,↓qbf,↓qa9,↓qbg,↓qba,↓qbh,↓qbb,↓qbi,↓qb2,↓qck,↓qcr,↓qco,↓qcp,↓qcq,↓qcn,↓qcm,↓qbm,↓qbn,↓qb0,↓qbv,↓qbq,↓qbu,↓qbz,↓qbw,↓qby,↓qbx,↓qbr,↓qbp,↓qb1,↓qbs,↓qbt,↓qbo,↓qa2,↓qa3,↓qa4,↓qbk,↓qbl,↓qex,↓qew,↓qet,↓qeu,↓qe2,↓qe1,↓qe0,qc5,↓qeq,↓qer,↓qev,↓qc4,↓qc2,↓qc3,↓qe7,↓qe8,↓qe9,↓qe6,qaa,↓qes,↓qef,↓qeg,↓qfb,↓qfa,↓qei,↓qdk,↓qds,↓qdu,↓qdt,↓qd9,↓qea,↓qen,↓qeo,↓qdo,↓qdp,↓qdr,↓qdq,↓qdx,↓qep,↓qdv,↓qej,↓qdn,↓qed,↓qek,↓qel,↓qem,↓qd1,↓qd0,↓qd2,↓qd3,↓qd5,↓qdz,↓qd6,↓qd8,↓qd7,↓qdl,↓qdm,↓qdy,↓qaw,↓qdw,↓qee,↓qec,↓qdj,↓qeh,↓qeb,↓qd4,qav,qau,evs,evp,mkB,repB,fill,blen,qae,qad,qac,qab,qc1,qc0,qdg,qdi,qde,qdf,qcx,qcz,qcv,qcw,↓qdc,↓qdb,↓qdd,↓qah,↓qag,↓qai,↓retQ,res,resAll,resOne,kill,apartOk,exp,injV,injB,pur,purs,purR,pursR,List.set_cons_zero,List.set_cons_succ,List.length_cons,List.length_nil,List.cons_append,List.nil_append,List.append_nil,List.append_assoc,List.length_append,List.reduceReplicate,Nat.reduceAdd,Nat.reduceMul,Nat.reduceSub,Nat.reduceEqDiff,Nat.reduceLT,Nat.zero_add,Nat.add_zero,Nat.mul_one,Int.reduceToNat,Int.toNat_natCast,Int.cast_ofNat_Int,Int.reduceLE,Int.reduceLT,Int.reduceEq,reduceCtorEq,↓reduceIte,Bool.true_eq_false,Bool.false_eq_true,Bool.not_true,Bool.not_false,true_and,and_true,and_assoc,qaj,sub1,qc8,qc7,qc9,List.length_replicate,Nat.le_refl,forall_const,false_implies,true_implies,ne_eq,not_true_eq_false,not_false_eq_true,decide_true,decide_false,decide_eq_true_eq,decide_eq_false_iff_not,Bool.not_eq_true',Bool.not_eq_false',implies_true]
      repeat (refine And.intro (by first | omega | rfl) ?_)
      refine ⟨⟨a, i, rfl⟩, ?_⟩
      repeat (refine And.intro (by first | omega | rfl) ?_)
      refine ⟨⟨b, i, rfl⟩, fun hne => ?_, fun heq => ?_⟩
      · repeat (refine And.intro (by first | omega | rfl) ?_)
        refine ⟨⟨a, i, rfl⟩, ?_⟩
        repeat (refine And.intro (by first | omega | rfl) ?_)
        exact ⟨⟨b, i, rfl⟩, out_bool (less_at ha hb (fun j hj => hsame j (by omega)) (by simpa using hne))⟩
      · exact ⟨i, hK _ ⟨by omega, fun j hj => by
          rcases Nat.eq_or_lt_of_le hj with rfl | hj
          · simpa using heq
          · exact hsame j (by omega)⟩ (by omega), rfl⟩
    · refine out_bool ?_
      have : n = 0 := by omega
      subst this
      have := val_eq_all (by decide : (0 : Int) < 65536) (fun j => hsame j (by omega))
      simp [this]
end Am
