/-
Working texts: contracts of functions, and the numbers behind them.
-/
import Derived.Test.YtkchoojcficjgaaLdA
set_option linter.unusedSimpArgs false
set_option linter.unusedVariables false
set_option linter.unusedSectionVars false
set_option linter.unusedSimpArgs false
set_option linter.unusedVariables false
set_option maxRecDepth 20000
namespace Am
open Go.Proofs
/-! ### The reference's ladder -/
structure Rs where
  n : Nat
  A : List Int
  B : List Int
  C : List Int
  D : List Int
  S : Q4
  o : Bool
def bq4 : Bool → Nat × Nat
  | false => (8, 11)
  | true => (11, 12)
def tl4 : Bool → List Int → List Int → List Blk
  | false, _, d => [.ints false .u32 d]
  | true, c, d => [.ints false .u32 c, .ints false .u32 d]
theorem bq4_f : bq4 false = (8, 11) := by rw [bq4]
theorem bq4_t : bq4 true = (11, 12) := by rw [bq4]
theorem tl4_f (c d : List Int) : tl4 false c d = [.ints false .u32 d] := by rw [tl4]
theorem tl4_t (c d : List Int) : tl4 true c d = [.ints false .u32 c, .ints false .u32 d] := by rw [tl4]
def F49 : List D → Out
  | [.v (.ints _ k), .v (.ints _ p)] => .one (.v (.ints .u8 (dig 256 32 (shv k p))))
  | _ => bad
def s49 : Summ := sData [.v, .v] preKK F49
set_option maxHeartbeats 4000000 in
theorem ok49 {g : List Blk} [Ge gl g] : SumOK Try.prog g 49 s49 ∧ SumAbs s49 := by
  refine fsumA (l := [(53, s53), (25, s25), (37, s37), (41, s41), (43, s43), (44, s44), (32, s32), (30, s30)]) mixed gl_plain rfl Try.func49 comp49 compR49 nt49 (by simp only [List.mem_cons, List.not_mem_nil, or_false, forall_eq_or_imp, forall_eq]; exact ⟨ok53, ok25, ok37, ok41, ok43, ok44, ok32, ok30⟩) fun ds ⟨k, pl, hd, hk, hpl⟩ hA => ?_
  subst hd
  have hkl := hk.1
  have hpl1 := hpl.1
  have sk : sub k 0 32 = k := qdc hkl
  have spl' : sub pl 0 32 = pl := qdc hpl1
  have k1 := hk.p
  have k2 := hpl.p
  have hkc := ckl_key hk
  obtain ⟨kc, hkcc⟩ : ∃ kc, ckl k = kc := ⟨_, rfl⟩
  have hshv : shv k pl = ladR (lad (kv pl) (val 256 kc) 255 ⟨1, 0, kv pl, 1⟩) := by rw [← hkcc]; rfl
  rw [hkcc] at hkc
  have hkcl := hkc.1
  have spk : spl [0, 0, 0, 0, 0, 0, 0, 0, 0, 0, 0, 0, 0, 0, 0, 0, 0, 0, 0, 0, 0, 0, 0, 0, 0, 0, 0, 0, 0, 0, 0, 0] 0 kc = kc := qc8 (by simp [hkcl])
  have hX := plc_lg hpl
  obtain ⟨LX, hXX⟩ : ∃ X, plc pl = X := ⟨_, rfl⟩
  rw [hXX] at hX
  obtain ⟨vX, hvX⟩ : ∃ x, kv pl = x := ⟨_, rfl⟩
  rw [hvX] at hX hshv
  have eX := hX
  obtain ⟨K, hK⟩ : ∃ K, val 256 kc = K := ⟨_, rfl⟩
  rw [hK] at hshv
  have hkb := key_bit hkc
  rw [hK] at hkb
  obtain ⟨R, hR⟩ : ∃ R, lad vX K 255 ⟨1, 0, vX, 1⟩ = R := ⟨_, rfl⟩
  rw [hR] at hshv
  have u1 : pre37 [.v (.int .u32 1)] := ⟨1, rfl, by decide, by decide⟩
  have u0 : pre37 [.v (.int .u32 0)] := ⟨0, rfl, by decide, by decide⟩
  have um : pre37 [.v (.int .u32 121665)] := ⟨121665, rfl, by decide, by decide⟩
  have el1 : Lg (dig 65536 2 1) 1 := num_lg (by decide) (by decide)
  have el0 : Lg (dig 65536 2 0) 0 := num_lg (by decide) (by decide)
  have ek1 : Lg (dig 65536 2 121665) 121665 := num_lg (by decide) (by decide)
  obtain ⟨Lk1, hk1⟩ : ∃ L, dig 65536 2 121665 = L := ⟨_, rfl⟩
  obtain ⟨vk1, hvk1⟩ : ∃ v : Int, 121665 = v := ⟨_, rfl⟩
  rw [hk1, hvk1] at ek1
  obtain ⟨L1, hL1⟩ : ∃ L, dig 65536 2 1 = L := ⟨_, rfl⟩
  obtain ⟨L0, hL0⟩ : ∃ L, dig 65536 2 0 = L := ⟨_, rfl⟩
  rw [hL1] at el1
  rw [hL0] at el0
  simp only [s53, s25, s37, s41, s43, s44, s32, s30]
  simp only [ir49,rs49,gl,F49,hkl,hpl1,sk,spl',k1,k2,hkcc,hkcl,spk,hXX,u1,u0,hL1,hL0,s53,s25,s37,F53,F25,F37,qdc,qc8,qaj,List.length_cons,List.length_nil,Nat.reduceAdd,Nat.le_refl,Nat.reduceLeDiff,Nat.reduceLT,true_and,and_true,↓qax,↓qay,↓qa0,↓qaz,↓qcu,↓qbj,↓qa1,↓qcm,↓qb3,↓qcj,↓qcb,↓qcf,↓qcg,↓qb4,↓qce,↓qck,↓qb5,↓qch,↓qci,↓qb6,↓qcc,↓qca,↓qb9,↓qb8,↓qb7,↓qa5,↓qbc,↓qa6,↓qbd,↓qa7,↓qbe,↓qa8,↓qbf,↓qa9,↓qbg,↓qba,↓qbh,↓qbb,↓qbi,↓qb2,↓qcl,↓qfe,↓qcp,↓qcq,↓qcr,↓qco,↓qcn,↓qbm,↓qbn,↓qb0,↓qbv,↓qbq,↓qbu,↓qbz,↓qbw,↓qby,↓qbx,↓qbr,↓qbp,↓qb1,↓qbs,↓qbt,↓qbo,↓qe1,↓qe0,↓qe5,↓qe7,↓qe6,↓qez,↓qey,↓qev,↓qew,↓qe4,↓qe3,↓qe2,qc7,↓qes,↓qet,↓qex,↓qc6,↓qc4,↓qc5,↓qe9,↓qfa,↓qfb,↓qe8,qaa,↓qeu,↓qeh,↓qei,↓qfd,↓qfc,↓qek,↓qdm,↓qdu,↓qeb,↓qec,↓qep,↓qeq,↓qdq,↓qdr,↓qdt,↓qds,↓qdz,↓qer,↓qdx,↓qel,↓qdp,↓qef,↓qem,↓qen,↓qeo,↓qd3,↓qd2,↓qd4,↓qd5,↓qd7,↓qd1,↓qd8,↓qea,↓qd9,↓qdn,↓qdo,↓qd0,↓qaw,↓qdy,↓qeg,↓qee,↓qdl,↓qej,↓qed,↓qd6,qav,List.drop_zero,Nat.sub_zero,qc0,qcv,qcw,qdj,qat,qas,qaf,List.map_cons,List.map_nil,List.zip_cons_cons,List.zip_nil_right,List.zip_nil_left,qau,evs,evp,mkB,repB,blen,qae,qad,qac,qab,qc3,qc2,qdi,qdk,qdg,qdh,qcz,qc1,qcx,qcy,↓qde,↓qdd,↓qdf,↓qah,↓qag,↓qai,↓retQ,res,resAll,resOne,kill,apartOk,exp,injV,injB,pur,purs,purR,pursR,List.set_cons_zero,List.set_cons_succ,List.length_cons,List.length_nil,List.cons_append,List.nil_append,List.append_nil,List.append_assoc,List.length_append,List.reduceReplicate,Nat.reduceAdd,Nat.reduceMul,Nat.reduceSub,Nat.reduceEqDiff,Nat.reduceLT,Nat.zero_add,Nat.add_zero,Nat.mul_one,Int.reduceToNat,Int.toNat_natCast,Int.cast_ofNat_Int,Int.reduceLE,Int.reduceLT,Int.reduceEq,reduceCtorEq,↓reduceIte,Bool.true_eq_false,Bool.false_eq_true,Bool.not_true,Bool.not_false,true_and,and_true,and_assoc,qaj,sub1,qda,qc9,qdb,List.length_replicate,Nat.le_refl,false_implies,true_implies,ne_eq,not_true_eq_false,not_false_eq_true,decide_true,decide_false,decide_eq_true_eq,decide_eq_false_iff_not,Bool.not_eq_true',Bool.not_eq_false']
  repeat (refine And.intro (by omega) ?_)
  refine awp_loopA (n := 107) hA [4, 5, 6, 7, 8, 9, 10, 11] (by decide +kernel) (fun m : Rs => [.ptr 6 0, .ptr 7 0, .slice 8 0 1 LX.length LX.length, .slice 9 0 1 m.A.length m.A.length, .slice 10 0 1 m.B.length m.B.length, .slice (bq4 m.o).1 0 1 m.C.length m.C.length, .slice (bq4 m.o).2 0 1 m.D.length m.D.length, .int .i64 ((m.n : Int) - 1)])
    (fun m => [.dead, .dead, .dead, .dead, .ints false .u8 k, .ints false .u8 pl, .ints false .u8 [0, 0, 0, 0, 0, 0, 0, 0, 0, 0, 0, 0, 0, 0, 0, 0, 0, 0, 0, 0, 0, 0, 0, 0, 0, 0, 0, 0, 0, 0, 0, 0], .ints false .u8 kc, .ints false .u32 LX, .ints false .u32 m.A, .ints false .u32 m.B] ++ tl4 m.o m.C m.D) (fun m => m.n ≤ 255 ∧ (m.o = false → m.C = LX) ∧ Lg m.A m.S.a ∧ Lg m.B m.S.b ∧ Lg m.C m.S.c ∧ Lg m.D m.S.d ∧ lad vX K m.n m.S = R) (fun m => m.n) ⟨255, L1, L0, LX, L1, ⟨1, 0, vX, 1⟩, false⟩ ?_ ⟨Nat.le_refl _, fun _ => rfl, el1, el0, eX, el1, hR⟩ ?_
  · have hl1 : L1.length = 2 := by rw [← hL1, qaj]
    have hl0 : L0.length = 2 := by rw [← hL0, qaj]
    refine Hd.same ?_
    simp only [bq4_f,tl4_f,hl1,hl0,show (255 : Int) - 1 = 254 by decide,↓qax,↓qay,↓qa0,↓qaz,↓qcu,↓qbj,↓qa1,↓qcm,↓qb3,↓qcj,↓qcb,↓qcf,↓qcg,↓qb4,↓qce,↓qck,↓qb5,↓qch,↓qci,↓qb6,↓qcc,↓qca,↓qb9,↓qb8,↓qb7,↓qa5,↓qbc,↓qa6,↓qbd,↓qa7,↓qbe,↓qa8,↓qbf,↓qa9,↓qbg,↓qba,↓qbh,↓qbb,↓qbi,↓qb2,↓qcl,↓qfe,↓qcp,↓qcq,↓qcr,↓qco,↓qcn,↓qbm,↓qbn,↓qb0,↓qbv,↓qbq,↓qbu,↓qbz,↓qbw,↓qby,↓qbx,↓qbr,↓qbp,↓qb1,↓qbs,↓qbt,↓qbo,↓qe1,↓qe0,↓qe5,↓qe7,↓qe6,↓qez,↓qey,↓qev,↓qew,↓qe4,↓qe3,↓qe2,qc7,↓qes,↓qet,↓qex,↓qc6,↓qc4,↓qc5,↓qe9,↓qfa,↓qfb,↓qe8,qaa,↓qeu,↓qeh,↓qei,↓qfd,↓qfc,↓qek,↓qdm,↓qdu,↓qeb,↓qec,↓qep,↓qeq,↓qdq,↓qdr,↓qdt,↓qds,↓qdz,↓qer,↓qdx,↓qel,↓qdp,↓qef,↓qem,↓qen,↓qeo,↓qd3,↓qd2,↓qd4,↓qd5,↓qd7,↓qd1,↓qd8,↓qea,↓qd9,↓qdn,↓qdo,↓qd0,↓qaw,↓qdy,↓qeg,↓qee,↓qdl,↓qej,↓qed,↓qd6,qav,List.drop_zero,Nat.sub_zero,qc0,qcv,qcw,qdj,qat,qas,qaf,List.map_cons,List.map_nil,List.zip_cons_cons,List.zip_nil_right,List.zip_nil_left,qau,evs,evp,mkB,repB,blen,qae,qad,qac,qab,qc3,qc2,qdi,qdk,qdg,qdh,qcz,qc1,qcx,qcy,↓qde,↓qdd,↓qdf,↓qah,↓qag,↓qai,↓retQ,res,resAll,resOne,kill,apartOk,exp,injV,injB,pur,purs,purR,pursR,List.set_cons_zero,List.set_cons_succ,List.length_cons,List.length_nil,List.cons_append,List.nil_append,List.append_nil,List.append_assoc,List.length_append,List.reduceReplicate,Nat.reduceAdd,Nat.reduceMul,Nat.reduceSub,Nat.reduceEqDiff,Nat.reduceLT,Nat.zero_add,Nat.add_zero,Nat.mul_one,Int.reduceToNat,Int.toNat_natCast,Int.cast_ofNat_Int,Int.reduceLE,Int.reduceLT,Int.reduceEq,reduceCtorEq,↓reduceIte,Bool.true_eq_false,Bool.false_eq_true,Bool.not_true,Bool.not_false,true_and,and_true,and_assoc,qaj,sub1,qda,qc9,qdb,List.length_replicate,Nat.le_refl,false_implies,true_implies,ne_eq,not_true_eq_false,not_false_eq_true,decide_true,decide_false,decide_eq_true_eq,decide_eq_false_iff_not,Bool.not_eq_true',Bool.not_eq_false']
  rintro ⟨n, La, Lb, Lc, Ld, S, o⟩ ⟨hn, hfst, ha, hb, hc, hd, hr⟩ KK hKK
  simp only at hn hfst ha hb hc hd hr hKK
  simp only [s53, s25, s37, s41, s43, s44, s32, s30]
  by_cases h0 : n = 0
  · subst h0
    have c1 : ¬ (0 : Int) ≤ 0 - 1 := by decide
    have hSR : S = R := hr
    have p1 : preSh [.s .u32 Lb] := ⟨_, rfl, hb.sh⟩
    have eO := over_lg hb
    obtain ⟨LO, hO⟩ : ∃ L, over Lb = L := ⟨_, rfl⟩
    rw [hO] at eO
    have p2 := ha.p2 eO
    have eM := rmul_lg ha eO
    obtain ⟨LM, hM⟩ : ∃ L, rmul La LO = L := ⟨_, rfl⟩
    rw [hM] at eM
    have p3 := eM.pk
    have b1 : dig 256 32 (val 65536 LM) = dig 256 32 (shv k pl) := by rw [eM.is, hshv, ← hSR]; rfl
    have l32 : (dig 256 32 (shv k pl)).length = 32 := qaj _ _ _
    have sp3 : spl [0, 0, 0, 0, 0, 0, 0, 0, 0, 0, 0, 0, 0, 0, 0, 0, 0, 0, 0, 0, 0, 0, 0, 0, 0, 0, 0, 0, 0, 0, 0, 0] 0 (dig 256 32 (shv k pl)) = dig 256 32 (shv k pl) := qc8 (by simp [l32])
    cases o
    ·     simp only [c1,bq4_f,tl4_f,p1,hO,p2,hM,p3,b1,sp3,s32,s44,s30,F32,F44,F30,qdc,qc8,qaj,List.length_cons,List.length_nil,Nat.reduceAdd,Nat.le_refl,Nat.reduceLeDiff,Nat.reduceLT,true_and,and_true,↓qax,↓qay,↓qa0,↓qaz,↓qcu,↓qbj,↓qa1,↓qcm,↓qb3,↓qcj,↓qcb,↓qcf,↓qcg,↓qb4,↓qce,↓qck,↓qb5,↓qch,↓qci,↓qb6,↓qcc,↓qca,↓qb9,↓qb8,↓qb7,↓qa5,↓qbc,↓qa6,↓qbd,↓qa7,↓qbe,↓qa8,↓qbf,↓qa9,↓qbg,↓qba,↓qbh,↓qbb,↓qbi,↓qb2,↓qcl,↓qfe,↓qcp,↓qcq,↓qcr,↓qco,↓qcn,↓qbm,↓qbn,↓qb0,↓qbv,↓qbq,↓qbu,↓qbz,↓qbw,↓qby,↓qbx,↓qbr,↓qbp,↓qb1,↓qbs,↓qbt,↓qbo,↓qe1,↓qe0,↓qe5,↓qe7,↓qe6,↓qez,↓qey,↓qev,↓qew,↓qe4,↓qe3,↓qe2,qc7,↓qes,↓qet,↓qex,↓qc6,↓qc4,↓qc5,↓qe9,↓qfa,↓qfb,↓qe8,qaa,↓qeu,↓qeh,↓qei,↓qfd,↓qfc,↓qek,↓qdm,↓qdu,↓qeb,↓qec,↓qep,↓qeq,↓qdq,↓qdr,↓qdt,↓qds,↓qdz,↓qer,↓qdx,↓qel,↓qdp,↓qef,↓qem,↓qen,↓qeo,↓qd3,↓qd2,↓qd4,↓qd5,↓qd7,↓qd1,↓qd8,↓qea,↓qd9,↓qdn,↓qdo,↓qd0,↓qaw,↓qdy,↓qeg,↓qee,↓qdl,↓qej,↓qed,↓qd6,qav,List.drop_zero,Nat.sub_zero,qc0,qcv,qcw,qdj,qat,qas,qaf,List.map_cons,List.map_nil,List.zip_cons_cons,List.zip_nil_right,List.zip_nil_left,qau,evs,evp,mkB,repB,blen,qae,qad,qac,qab,qc3,qc2,qdi,qdk,qdg,qdh,qcz,qc1,qcx,qcy,↓qde,↓qdd,↓qdf,↓qah,↓qag,↓qai,↓retQ,res,resAll,resOne,kill,apartOk,exp,injV,injB,pur,purs,purR,pursR,List.set_cons_zero,List.set_cons_succ,List.length_cons,List.length_nil,List.cons_append,List.nil_append,List.append_nil,List.append_assoc,List.length_append,List.reduceReplicate,Nat.reduceAdd,Nat.reduceMul,Nat.reduceSub,Nat.reduceEqDiff,Nat.reduceLT,Nat.zero_add,Nat.add_zero,Nat.mul_one,Int.reduceToNat,Int.toNat_natCast,Int.cast_ofNat_Int,Int.reduceLE,Int.reduceLT,Int.reduceEq,reduceCtorEq,↓reduceIte,Bool.true_eq_false,Bool.false_eq_true,Bool.not_true,Bool.not_false,true_and,and_true,and_assoc,qaj,sub1,qda,qc9,qdb,List.length_replicate,Nat.le_refl,false_implies,true_implies,ne_eq,not_true_eq_false,not_false_eq_true,decide_true,decide_false,decide_eq_true_eq,decide_eq_false_iff_not,Bool.not_eq_true',Bool.not_eq_false']
          repeat (refine And.intro (by omega) ?_)
          simp only [out, outs, out1, pur, and_self]
    ·     simp only [c1,bq4_t,tl4_t,p1,hO,p2,hM,p3,b1,sp3,s32,s44,s30,F32,F44,F30,qdc,qc8,qaj,List.length_cons,List.length_nil,Nat.reduceAdd,Nat.le_refl,Nat.reduceLeDiff,Nat.reduceLT,true_and,and_true,↓qax,↓qay,↓qa0,↓qaz,↓qcu,↓qbj,↓qa1,↓qcm,↓qb3,↓qcj,↓qcb,↓qcf,↓qcg,↓qb4,↓qce,↓qck,↓qb5,↓qch,↓qci,↓qb6,↓qcc,↓qca,↓qb9,↓qb8,↓qb7,↓qa5,↓qbc,↓qa6,↓qbd,↓qa7,↓qbe,↓qa8,↓qbf,↓qa9,↓qbg,↓qba,↓qbh,↓qbb,↓qbi,↓qb2,↓qcl,↓qfe,↓qcp,↓qcq,↓qcr,↓qco,↓qcn,↓qbm,↓qbn,↓qb0,↓qbv,↓qbq,↓qbu,↓qbz,↓qbw,↓qby,↓qbx,↓qbr,↓qbp,↓qb1,↓qbs,↓qbt,↓qbo,↓qe1,↓qe0,↓qe5,↓qe7,↓qe6,↓qez,↓qey,↓qev,↓qew,↓qe4,↓qe3,↓qe2,qc7,↓qes,↓qet,↓qex,↓qc6,↓qc4,↓qc5,↓qe9,↓qfa,↓qfb,↓qe8,qaa,↓qeu,↓qeh,↓qei,↓qfd,↓qfc,↓qek,↓qdm,↓qdu,↓qeb,↓qec,↓qep,↓qeq,↓qdq,↓qdr,↓qdt,↓qds,↓qdz,↓qer,↓qdx,↓qel,↓qdp,↓qef,↓qem,↓qen,↓qeo,↓qd3,↓qd2,↓qd4,↓qd5,↓qd7,↓qd1,↓qd8,↓qea,↓qd9,↓qdn,↓qdo,↓qd0,↓qaw,↓qdy,↓qeg,↓qee,↓qdl,↓qej,↓qed,↓qd6,qav,List.drop_zero,Nat.sub_zero,qc0,qcv,qcw,qdj,qat,qas,qaf,List.map_cons,List.map_nil,List.zip_cons_cons,List.zip_nil_right,List.zip_nil_left,qau,evs,evp,mkB,repB,blen,qae,qad,qac,qab,qc3,qc2,qdi,qdk,qdg,qdh,qcz,qc1,qcx,qcy,↓qde,↓qdd,↓qdf,↓qah,↓qag,↓qai,↓retQ,res,resAll,resOne,kill,apartOk,exp,injV,injB,pur,purs,purR,pursR,List.set_cons_zero,List.set_cons_succ,List.length_cons,List.length_nil,List.cons_append,List.nil_append,List.append_nil,List.append_assoc,List.length_append,List.reduceReplicate,Nat.reduceAdd,Nat.reduceMul,Nat.reduceSub,Nat.reduceEqDiff,Nat.reduceLT,Nat.zero_add,Nat.add_zero,Nat.mul_one,Int.reduceToNat,Int.toNat_natCast,Int.cast_ofNat_Int,Int.reduceLE,Int.reduceLT,Int.reduceEq,reduceCtorEq,↓reduceIte,Bool.true_eq_false,Bool.false_eq_true,Bool.not_true,Bool.not_false,true_and,and_true,and_assoc,qaj,sub1,qda,qc9,qdb,List.length_replicate,Nat.le_refl,false_implies,true_implies,ne_eq,not_true_eq_false,not_false_eq_true,decide_true,decide_false,decide_eq_true_eq,decide_eq_false_iff_not,Bool.not_eq_true',Bool.not_eq_false']
          repeat (refine And.intro (by omega) ?_)
          simp only [out, outs, out1, pur, and_self]
  · obtain ⟨i, rfl⟩ : ∃ i, n = i + 1 := ⟨n - 1, by omega⟩
    have c0 : ((i + 1 : Nat) : Int) - 1 = (i : Int) := by omega
    have c1 : (0 : Int) ≤ (i : Int) := by omega
    have wd : Go.IntKind.i64.wrap ((i : Int) - 1) = (i : Int) - 1 := by rw [wrap_i64]; omega
    have d8 := w64_div8 (i := i) (by omega)
    have hi32 : i / 8 < 32 := by omega
    have hkb' := hkb i
    have hs : lad vX K (i + 1) S = lad vX K i (rst vX K i S) := rfl
    rw [hs] at hr
    cases o with
    | false =>
      have hfx := hfst rfl
      subst hfx
      by_cases hbit : K / 2 ^ i % 2 = 1
      · rw [hbit] at hkb'
        obtain ⟨LA, hLA⟩ : ∃ L, Lc = L := ⟨_, rfl⟩
        obtain ⟨vA, hvA⟩ : ∃ v, S.c = v := ⟨_, rfl⟩
        have eA : Lg LA vA := by rw [← hLA, ← hvA]; exact hc
        obtain ⟨LB, hLB⟩ : ∃ L, Ld = L := ⟨_, rfl⟩
        obtain ⟨vB, hvB⟩ : ∃ v, S.d = v := ⟨_, rfl⟩
        have eB : Lg LB vB := by rw [← hLB, ← hvB]; exact hd
        obtain ⟨LC, hLC⟩ : ∃ L, La = L := ⟨_, rfl⟩
        obtain ⟨vC, hvC⟩ : ∃ v, S.a = v := ⟨_, rfl⟩
        have eC : Lg LC vC := by rw [← hLC, ← hvC]; exact ha
        obtain ⟨LD, hLD⟩ : ∃ L, Lb = L := ⟨_, rfl⟩
        obtain ⟨vD, hvD⟩ : ∃ v, S.b = v := ⟨_, rfl⟩
        have eD : Lg LD vD := by rw [← hLD, ← hvD]; exact hb
        have hrs : rst vX K i S = (lst vX ⟨vA, vB, vC, vD⟩).sw := by
          rw [rst, if_pos hbit, ← hvA, ← hvB, ← hvC, ← hvD]; rfl
        rw [hrs] at hr
        have eX : Lg LA vX := by rw [← hLA]; exact eX
        obtain ⟨Ls, hs⟩ : ∃ N, radd LA LB = N := ⟨_, rfl⟩
        obtain ⟨vs, gs⟩ : ∃ z, (vA + vB) % Pp = z := ⟨_, rfl⟩
        have es : Lg Ls vs := by rw [← hs, ← gs]; exact radd_lg eA eB
        have ps := eA.p2 eB
        obtain ⟨Lt, ht⟩ : ∃ N, rsub LA LB = N := ⟨_, rfl⟩
        obtain ⟨vt, gt⟩ : ∃ z, (vA - vB) % Pp = z := ⟨_, rfl⟩
        have et : Lg Lt vt := by rw [← ht, ← gt]; exact rsub_lg eA eB
        have pt := eA.p2 eB
        obtain ⟨Lss, hss⟩ : ∃ N, rmul Ls Ls = N := ⟨_, rfl⟩
        obtain ⟨vss, gss⟩ : ∃ z, (vs * vs) % Pp = z := ⟨_, rfl⟩
        have ess : Lg Lss vss := by rw [← hss, ← gss]; exact rmul_lg es es
        have pss := es.p2 es
        obtain ⟨Ltt, htt⟩ : ∃ N, rmul Lt Lt = N := ⟨_, rfl⟩
        obtain ⟨vtt, gtt⟩ : ∃ z, (vt * vt) % Pp = z := ⟨_, rfl⟩
        have ett : Lg Ltt vtt := by rw [← htt, ← gtt]; exact rmul_lg et et
        have ptt := et.p2 et
        obtain ⟨Le, he⟩ : ∃ N, rsub Lss Ltt = N := ⟨_, rfl⟩
        obtain ⟨ve, ge⟩ : ∃ z, (vss - vtt) % Pp = z := ⟨_, rfl⟩
        have ee : Lg Le ve := by rw [← he, ← ge]; exact rsub_lg ess ett
        have pe := ess.p2 ett
        obtain ⟨Lcd, hcd⟩ : ∃ N, rsub LC LD = N := ⟨_, rfl⟩
        obtain ⟨vcd, gcd⟩ : ∃ z, (vC - vD) % Pp = z := ⟨_, rfl⟩
        have ecd : Lg Lcd vcd := by rw [← hcd, ← gcd]; exact rsub_lg eC eD
        have pcd := eC.p2 eD
        obtain ⟨Lu, hu⟩ : ∃ N, rmul Lcd Ls = N := ⟨_, rfl⟩
        obtain ⟨vu, gu⟩ : ∃ z, (vcd * vs) % Pp = z := ⟨_, rfl⟩
        have eu : Lg Lu vu := by rw [← hu, ← gu]; exact rmul_lg ecd es
        have pu := ecd.p2 es
        obtain ⟨Lcs, hcs⟩ : ∃ N, radd LC LD = N := ⟨_, rfl⟩
        obtain ⟨vcs, gcs⟩ : ∃ z, (vC + vD) % Pp = z := ⟨_, rfl⟩
        have ecs : Lg Lcs vcs := by rw [← hcs, ← gcs]; exact radd_lg eC eD
        have pcs := eC.p2 eD
        obtain ⟨Lv, hv⟩ : ∃ N, rmul Lcs Lt = N := ⟨_, rfl⟩
        obtain ⟨vv, gv⟩ : ∃ z, (vcs * vt) % Pp = z := ⟨_, rfl⟩
        have ev : Lg Lv vv := by rw [← hv, ← gv]; exact rmul_lg ecs et
        have pv := ecs.p2 et
        obtain ⟨Lp, hp⟩ : ∃ N, radd Lu Lv = N := ⟨_, rfl⟩
        obtain ⟨vp, gp⟩ : ∃ z, (vu + vv) % Pp = z := ⟨_, rfl⟩
        have ep : Lg Lp vp := by rw [← hp, ← gp]; exact radd_lg eu ev
        have pp := eu.p2 ev
        obtain ⟨Lq, hq⟩ : ∃ N, rsub Lu Lv = N := ⟨_, rfl⟩
        obtain ⟨vq, gq⟩ : ∃ z, (vu - vv) % Pp = z := ⟨_, rfl⟩
        have eq : Lg Lq vq := by rw [← hq, ← gq]; exact rsub_lg eu ev
        have pq := eu.p2 ev
        obtain ⟨Lx3, hx3⟩ : ∃ N, rmul Lp Lp = N := ⟨_, rfl⟩
        obtain ⟨vx3, gx3⟩ : ∃ z, (vp * vp) % Pp = z := ⟨_, rfl⟩
        have ex3 : Lg Lx3 vx3 := by rw [← hx3, ← gx3]; exact rmul_lg ep ep
        have px3 := ep.p2 ep
        obtain ⟨Lqq, hqq⟩ : ∃ N, rmul Lq Lq = N := ⟨_, rfl⟩
        obtain ⟨vqq, gqq⟩ : ∃ z, (vq * vq) % Pp = z := ⟨_, rfl⟩
        have eqq : Lg Lqq vqq := by rw [← hqq, ← gqq]; exact rmul_lg eq eq
        have pqq := eq.p2 eq
        obtain ⟨Lz3, hz3⟩ : ∃ N, rmul LA Lqq = N := ⟨_, rfl⟩
        obtain ⟨vz3, gz3⟩ : ∃ z, (vX * vqq) % Pp = z := ⟨_, rfl⟩
        have ez3 : Lg Lz3 vz3 := by rw [← hz3, ← gz3]; exact rmul_lg eX eqq
        have pz3 := eX.p2 eqq
        obtain ⟨Lx2, hx2⟩ : ∃ N, rmul Lss Ltt = N := ⟨_, rfl⟩
        obtain ⟨vx2, gx2⟩ : ∃ z, (vss * vtt) % Pp = z := ⟨_, rfl⟩
        have ex2 : Lg Lx2 vx2 := by rw [← hx2, ← gx2]; exact rmul_lg ess ett
        have px2 := ess.p2 ett
        obtain ⟨Lm, hm⟩ : ∃ N, rmul Lk1 Le = N := ⟨_, rfl⟩
        obtain ⟨vm, gm⟩ : ∃ z, (vk1 * ve) % Pp = z := ⟨_, rfl⟩
        have em : Lg Lm vm := by rw [← hm, ← gm]; exact rmul_lg ek1 ee
        have pm := ek1.p2 ee
        obtain ⟨Ln, hn⟩ : ∃ N, radd Lss Lm = N := ⟨_, rfl⟩
        obtain ⟨vn, gn⟩ : ∃ z, (vss + vm) % Pp = z := ⟨_, rfl⟩
        have en : Lg Ln vn := by rw [← hn, ← gn]; exact radd_lg ess em
        have pn := ess.p2 em
        obtain ⟨Lz2, hz2⟩ : ∃ N, rmul Le Ln = N := ⟨_, rfl⟩
        obtain ⟨vz2, gz2⟩ : ∃ z, (ve * vn) % Pp = z := ⟨_, rfl⟩
        have ez2 : Lg Lz2 vz2 := by rw [← hz2, ← gz2]; exact rmul_lg ee en
        have pz2 := ee.p2 en
        have hl : lst vX ⟨vA, vB, vC, vD⟩ = ⟨vx2, vz2, vx3, vz3⟩ := by
          subst hvk1
          subst gz2 gn gm gx2 gz3 gqq gx3 gq gp gv gcs gu gcd ge gtt gss gt gs
          rfl
        rw [hl] at hr
        simp only [c0,c1,wd,d8,tmod8,hi32,hkcl,hkb',bq4_f,tl4_f,hLA,hLB,hLC,hLD,um,hk1,hs,ps,ht,pt,hss,pss,htt,ptt,he,pe,hcd,pcd,hu,pu,hcs,pcs,hv,pv,hp,pp,hq,pq,hx3,px3,hqq,pqq,hz3,pz3,hx2,px2,hm,pm,hn,pn,hz2,pz2,s37,s41,s43,s44,F37,F41,F43,F44,qdc,qc8,qaj,List.length_cons,List.length_nil,Nat.reduceAdd,Nat.le_refl,Nat.reduceLeDiff,Nat.reduceLT,true_and,and_true,↓qax,↓qay,↓qa0,↓qaz,↓qcu,↓qbj,↓qa1,↓qcm,↓qb3,↓qcj,↓qcb,↓qcf,↓qcg,↓qb4,↓qce,↓qck,↓qb5,↓qch,↓qci,↓qb6,↓qcc,↓qca,↓qb9,↓qb8,↓qb7,↓qa5,↓qbc,↓qa6,↓qbd,↓qa7,↓qbe,↓qa8,↓qbf,↓qa9,↓qbg,↓qba,↓qbh,↓qbb,↓qbi,↓qb2,↓qcl,↓qfe,↓qcp,↓qcq,↓qcr,↓qco,↓qcn,↓qbm,↓qbn,↓qb0,↓qbv,↓qbq,↓qbu,↓qbz,↓qbw,↓qby,↓qbx,↓qbr,↓qbp,↓qb1,↓qbs,↓qbt,↓qbo,↓qe1,↓qe0,↓qe5,↓qe7,↓qe6,↓qez,↓qey,↓qev,↓qew,↓qe4,↓qe3,↓qe2,qc7,↓qes,↓qet,↓qex,↓qc6,↓qc4,↓qc5,↓qe9,↓qfa,↓qfb,↓qe8,qaa,↓qeu,↓qeh,↓qei,↓qfd,↓qfc,↓qek,↓qdm,↓qdu,↓qeb,↓qec,↓qep,↓qeq,↓qdq,↓qdr,↓qdt,↓qds,↓qdz,↓qer,↓qdx,↓qel,↓qdp,↓qef,↓qem,↓qen,↓qeo,↓qd3,↓qd2,↓qd4,↓qd5,↓qd7,↓qd1,↓qd8,↓qea,↓qd9,↓qdn,↓qdo,↓qd0,↓qaw,↓qdy,↓qeg,↓qee,↓qdl,↓qej,↓qed,↓qd6,qav,List.drop_zero,Nat.sub_zero,qc0,qcv,qcw,qdj,qat,qas,qaf,List.map_cons,List.map_nil,List.zip_cons_cons,List.zip_nil_right,List.zip_nil_left,qau,evs,evp,mkB,repB,blen,qae,qad,qac,qab,qc3,qc2,qdi,qdk,qdg,qdh,qcz,qc1,qcx,qcy,↓qde,↓qdd,↓qdf,↓qah,↓qag,↓qai,↓retQ,res,resAll,resOne,kill,apartOk,exp,injV,injB,pur,purs,purR,pursR,List.set_cons_zero,List.set_cons_succ,List.length_cons,List.length_nil,List.cons_append,List.nil_append,List.append_nil,List.append_assoc,List.length_append,List.reduceReplicate,Nat.reduceAdd,Nat.reduceMul,Nat.reduceSub,Nat.reduceEqDiff,Nat.reduceLT,Nat.zero_add,Nat.add_zero,Nat.mul_one,Int.reduceToNat,Int.toNat_natCast,Int.cast_ofNat_Int,Int.reduceLE,Int.reduceLT,Int.reduceEq,reduceCtorEq,↓reduceIte,Bool.true_eq_false,Bool.false_eq_true,Bool.not_true,Bool.not_false,true_and,and_true,and_assoc,qaj,sub1,qda,qc9,qdb,List.length_replicate,Nat.le_refl,false_implies,true_implies,ne_eq,not_true_eq_false,not_false_eq_true,decide_true,decide_false,decide_eq_true_eq,decide_eq_false_iff_not,Bool.not_eq_true',Bool.not_eq_false']
        repeat (refine And.intro (by omega) ?_)
        refine ⟨⟨i, Lx3, Lz3, Lx2, Lz2, ⟨vx3, vz3, vx2, vz2⟩, true⟩, hKK _ ⟨by simp only; omega, fun h => by simp at h, ex3, ez3, ex2, ez2, hr⟩ (by simp only; omega), Hd.of [0, 1, 2, 3, 4, 5, 6, 7, 8, 23, 25, 26, 30] (by decide) (by decide) (by simp) ?_⟩
        simp only [bq4_t,tl4_t,gc,gcVs,gcV,posOf,gcH,gcB,Option.map_some,Option.map_none,List.replicate_zero,List.drop_zero,↓qax,↓qay,↓qa0,↓qaz,↓qcu,↓qbj,↓qa1,↓qcm,↓qb3,↓qcj,↓qcb,↓qcf,↓qcg,↓qb4,↓qce,↓qck,↓qb5,↓qch,↓qci,↓qb6,↓qcc,↓qca,↓qb9,↓qb8,↓qb7,↓qa5,↓qbc,↓qa6,↓qbd,↓qa7,↓qbe,↓qa8,↓qbf,↓qa9,↓qbg,↓qba,↓qbh,↓qbb,↓qbi,↓qb2,↓qcl,↓qfe,↓qcp,↓qcq,↓qcr,↓qco,↓qcn,↓qbm,↓qbn,↓qb0,↓qbv,↓qbq,↓qbu,↓qbz,↓qbw,↓qby,↓qbx,↓qbr,↓qbp,↓qb1,↓qbs,↓qbt,↓qbo,↓qe1,↓qe0,↓qe5,↓qe7,↓qe6,↓qez,↓qey,↓qev,↓qew,↓qe4,↓qe3,↓qe2,qc7,↓qes,↓qet,↓qex,↓qc6,↓qc4,↓qc5,↓qe9,↓qfa,↓qfb,↓qe8,qaa,↓qeu,↓qeh,↓qei,↓qfd,↓qfc,↓qek,↓qdm,↓qdu,↓qeb,↓qec,↓qep,↓qeq,↓qdq,↓qdr,↓qdt,↓qds,↓qdz,↓qer,↓qdx,↓qel,↓qdp,↓qef,↓qem,↓qen,↓qeo,↓qd3,↓qd2,↓qd4,↓qd5,↓qd7,↓qd1,↓qd8,↓qea,↓qd9,↓qdn,↓qdo,↓qd0,↓qaw,↓qdy,↓qeg,↓qee,↓qdl,↓qej,↓qed,↓qd6,qav,List.drop_zero,Nat.sub_zero,qc0,qcv,qcw,qdj,qat,qas,qaf,List.map_cons,List.map_nil,List.zip_cons_cons,List.zip_nil_right,List.zip_nil_left,qau,evs,evp,mkB,repB,blen,qae,qad,qac,qab,qc3,qc2,qdi,qdk,qdg,qdh,qcz,qc1,qcx,qcy,↓qde,↓qdd,↓qdf,↓qah,↓qag,↓qai,↓retQ,res,resAll,resOne,kill,apartOk,exp,injV,injB,pur,purs,purR,pursR,List.set_cons_zero,List.set_cons_succ,List.length_cons,List.length_nil,List.cons_append,List.nil_append,List.append_nil,List.append_assoc,List.length_append,List.reduceReplicate,Nat.reduceAdd,Nat.reduceMul,Nat.reduceSub,Nat.reduceEqDiff,Nat.reduceLT,Nat.zero_add,Nat.add_zero,Nat.mul_one,Int.reduceToNat,Int.toNat_natCast,Int.cast_ofNat_Int,Int.reduceLE,Int.reduceLT,Int.reduceEq,reduceCtorEq,↓reduceIte,Bool.true_eq_false,Bool.false_eq_true,Bool.not_true,Bool.not_false,true_and,and_true,and_assoc,qaj,sub1,qda,qc9,qdb,List.length_replicate,Nat.le_refl,false_implies,true_implies,ne_eq,not_true_eq_false,not_false_eq_true,decide_true,decide_false,decide_eq_true_eq,decide_eq_false_iff_not,Bool.not_eq_true',Bool.not_eq_false']
      · have hb0 : K / 2 ^ i % 2 = 0 := by omega
        rw [hb0] at hkb'
        obtain ⟨LA, hLA⟩ : ∃ L, La = L := ⟨_, rfl⟩
        obtain ⟨vA, hvA⟩ : ∃ v, S.a = v := ⟨_, rfl⟩
        have eA : Lg LA vA := by rw [← hLA, ← hvA]; exact ha
        obtain ⟨LB, hLB⟩ : ∃ L, Lb = L := ⟨_, rfl⟩
        obtain ⟨vB, hvB⟩ : ∃ v, S.b = v := ⟨_, rfl⟩
        have eB : Lg LB vB := by rw [← hLB, ← hvB]; exact hb
        obtain ⟨LC, hLC⟩ : ∃ L, Lc = L := ⟨_, rfl⟩
        obtain ⟨vC, hvC⟩ : ∃ v, S.c = v := ⟨_, rfl⟩
        have eC : Lg LC vC := by rw [← hLC, ← hvC]; exact hc
        obtain ⟨LD, hLD⟩ : ∃ L, Ld = L := ⟨_, rfl⟩
        obtain ⟨vD, hvD⟩ : ∃ v, S.d = v := ⟨_, rfl⟩
        have eD : Lg LD vD := by rw [← hLD, ← hvD]; exact hd
        have hrs : rst vX K i S = lst vX ⟨vA, vB, vC, vD⟩ := by
          rw [rst, if_neg hbit, ← hvA, ← hvB, ← hvC, ← hvD]
        rw [hrs] at hr
        have eX : Lg LC vX := by rw [← hLC]; exact eX
        obtain ⟨Ls, hs⟩ : ∃ N, radd LA LB = N := ⟨_, rfl⟩
        obtain ⟨vs, gs⟩ : ∃ z, (vA + vB) % Pp = z := ⟨_, rfl⟩
        have es : Lg Ls vs := by rw [← hs, ← gs]; exact radd_lg eA eB
        have ps := eA.p2 eB
        obtain ⟨Lt, ht⟩ : ∃ N, rsub LA LB = N := ⟨_, rfl⟩
        obtain ⟨vt, gt⟩ : ∃ z, (vA - vB) % Pp = z := ⟨_, rfl⟩
        have et : Lg Lt vt := by rw [← ht, ← gt]; exact rsub_lg eA eB
        have pt := eA.p2 eB
        obtain ⟨Lss, hss⟩ : ∃ N, rmul Ls Ls = N := ⟨_, rfl⟩
        obtain ⟨vss, gss⟩ : ∃ z, (vs * vs) % Pp = z := ⟨_, rfl⟩
        have ess : Lg Lss vss := by rw [← hss, ← gss]; exact rmul_lg es es
        have pss := es.p2 es
        obtain ⟨Ltt, htt⟩ : ∃ N, rmul Lt Lt = N := ⟨_, rfl⟩
        obtain ⟨vtt, gtt⟩ : ∃ z, (vt * vt) % Pp = z := ⟨_, rfl⟩
        have ett : Lg Ltt vtt := by rw [← htt, ← gtt]; exact rmul_lg et et
        have ptt := et.p2 et
        obtain ⟨Le, he⟩ : ∃ N, rsub Lss Ltt = N := ⟨_, rfl⟩
        obtain ⟨ve, ge⟩ : ∃ z, (vss - vtt) % Pp = z := ⟨_, rfl⟩
        have ee : Lg Le ve := by rw [← he, ← ge]; exact rsub_lg ess ett
        have pe := ess.p2 ett
        obtain ⟨Lcd, hcd⟩ : ∃ N, rsub LC LD = N := ⟨_, rfl⟩
        obtain ⟨vcd, gcd⟩ : ∃ z, (vC - vD) % Pp = z := ⟨_, rfl⟩
        have ecd : Lg Lcd vcd := by rw [← hcd, ← gcd]; exact rsub_lg eC eD
        have pcd := eC.p2 eD
        obtain ⟨Lu, hu⟩ : ∃ N, rmul Lcd Ls = N := ⟨_, rfl⟩
        obtain ⟨vu, gu⟩ : ∃ z, (vcd * vs) % Pp = z := ⟨_, rfl⟩
        have eu : Lg Lu vu := by rw [← hu, ← gu]; exact rmul_lg ecd es
        have pu := ecd.p2 es
        obtain ⟨Lcs, hcs⟩ : ∃ N, radd LC LD = N := ⟨_, rfl⟩
        obtain ⟨vcs, gcs⟩ : ∃ z, (vC + vD) % Pp = z := ⟨_, rfl⟩
        have ecs : Lg Lcs vcs := by rw [← hcs, ← gcs]; exact radd_lg eC eD
        have pcs := eC.p2 eD
        obtain ⟨Lv, hv⟩ : ∃ N, rmul Lcs Lt = N := ⟨_, rfl⟩
        obtain ⟨vv, gv⟩ : ∃ z, (vcs * vt) % Pp = z := ⟨_, rfl⟩
        have ev : Lg Lv vv := by rw [← hv, ← gv]; exact rmul_lg ecs et
        have pv := ecs.p2 et
        obtain ⟨Lp, hp⟩ : ∃ N, radd Lu Lv = N := ⟨_, rfl⟩
        obtain ⟨vp, gp⟩ : ∃ z, (vu + vv) % Pp = z := ⟨_, rfl⟩
        have ep : Lg Lp vp := by rw [← hp, ← gp]; exact radd_lg eu ev
        have pp := eu.p2 ev
        obtain ⟨Lq, hq⟩ : ∃ N, rsub Lu Lv = N := ⟨_, rfl⟩
        obtain ⟨vq, gq⟩ : ∃ z, (vu - vv) % Pp = z := ⟨_, rfl⟩
        have eq : Lg Lq vq := by rw [← hq, ← gq]; exact rsub_lg eu ev
        have pq := eu.p2 ev
        obtain ⟨Lx3, hx3⟩ : ∃ N, rmul Lp Lp = N := ⟨_, rfl⟩
        obtain ⟨vx3, gx3⟩ : ∃ z, (vp * vp) % Pp = z := ⟨_, rfl⟩
        have ex3 : Lg Lx3 vx3 := by rw [← hx3, ← gx3]; exact rmul_lg ep ep
        have px3 := ep.p2 ep
        obtain ⟨Lqq, hqq⟩ : ∃ N, rmul Lq Lq = N := ⟨_, rfl⟩
        obtain ⟨vqq, gqq⟩ : ∃ z, (vq * vq) % Pp = z := ⟨_, rfl⟩
        have eqq : Lg Lqq vqq := by rw [← hqq, ← gqq]; exact rmul_lg eq eq
        have pqq := eq.p2 eq
        obtain ⟨Lz3, hz3⟩ : ∃ N, rmul LC Lqq = N := ⟨_, rfl⟩
        obtain ⟨vz3, gz3⟩ : ∃ z, (vX * vqq) % Pp = z := ⟨_, rfl⟩
        have ez3 : Lg Lz3 vz3 := by rw [← hz3, ← gz3]; exact rmul_lg eX eqq
        have pz3 := eX.p2 eqq
        obtain ⟨Lx2, hx2⟩ : ∃ N, rmul Lss Ltt = N := ⟨_, rfl⟩
        obtain ⟨vx2, gx2⟩ : ∃ z, (vss * vtt) % Pp = z := ⟨_, rfl⟩
        have ex2 : Lg Lx2 vx2 := by rw [← hx2, ← gx2]; exact rmul_lg ess ett
        have px2 := ess.p2 ett
        obtain ⟨Lm, hm⟩ : ∃ N, rmul Lk1 Le = N := ⟨_, rfl⟩
        obtain ⟨vm, gm⟩ : ∃ z, (vk1 * ve) % Pp = z := ⟨_, rfl⟩
        have em : Lg Lm vm := by rw [← hm, ← gm]; exact rmul_lg ek1 ee
        have pm := ek1.p2 ee
        obtain ⟨Ln, hn⟩ : ∃ N, radd Lss Lm = N := ⟨_, rfl⟩
        obtain ⟨vn, gn⟩ : ∃ z, (vss + vm) % Pp = z := ⟨_, rfl⟩
        have en : Lg Ln vn := by rw [← hn, ← gn]; exact radd_lg ess em
        have pn := ess.p2 em
        obtain ⟨Lz2, hz2⟩ : ∃ N, rmul Le Ln = N := ⟨_, rfl⟩
        obtain ⟨vz2, gz2⟩ : ∃ z, (ve * vn) % Pp = z := ⟨_, rfl⟩
        have ez2 : Lg Lz2 vz2 := by rw [← hz2, ← gz2]; exact rmul_lg ee en
        have pz2 := ee.p2 en
        have hl : lst vX ⟨vA, vB, vC, vD⟩ = ⟨vx2, vz2, vx3, vz3⟩ := by
          subst hvk1
          subst gz2 gn gm gx2 gz3 gqq gx3 gq gp gv gcs gu gcd ge gtt gss gt gs
          rfl
        rw [hl] at hr
        simp only [c0,c1,wd,d8,tmod8,hi32,hkcl,hkb',bq4_f,tl4_f,hLA,hLB,hLC,hLD,um,hk1,hs,ps,ht,pt,hss,pss,htt,ptt,he,pe,hcd,pcd,hu,pu,hcs,pcs,hv,pv,hp,pp,hq,pq,hx3,px3,hqq,pqq,hz3,pz3,hx2,px2,hm,pm,hn,pn,hz2,pz2,s37,s41,s43,s44,F37,F41,F43,F44,qdc,qc8,qaj,List.length_cons,List.length_nil,Nat.reduceAdd,Nat.le_refl,Nat.reduceLeDiff,Nat.reduceLT,true_and,and_true,↓qax,↓qay,↓qa0,↓qaz,↓qcu,↓qbj,↓qa1,↓qcm,↓qb3,↓qcj,↓qcb,↓qcf,↓qcg,↓qb4,↓qce,↓qck,↓qb5,↓qch,↓qci,↓qb6,↓qcc,↓qca,↓qb9,↓qb8,↓qb7,↓qa5,↓qbc,↓qa6,↓qbd,↓qa7,↓qbe,↓qa8,↓qbf,↓qa9,↓qbg,↓qba,↓qbh,↓qbb,↓qbi,↓qb2,↓qcl,↓qfe,↓qcp,↓qcq,↓qcr,↓qco,↓qcn,↓qbm,↓qbn,↓qb0,↓qbv,↓qbq,↓qbu,↓qbz,↓qbw,↓qby,↓qbx,↓qbr,↓qbp,↓qb1,↓qbs,↓qbt,↓qbo,↓qe1,↓qe0,↓qe5,↓qe7,↓qe6,↓qez,↓qey,↓qev,↓qew,↓qe4,↓qe3,↓qe2,qc7,↓qes,↓qet,↓qex,↓qc6,↓qc4,↓qc5,↓qe9,↓qfa,↓qfb,↓qe8,qaa,↓qeu,↓qeh,↓qei,↓qfd,↓qfc,↓qek,↓qdm,↓qdu,↓qeb,↓qec,↓qep,↓qeq,↓qdq,↓qdr,↓qdt,↓qds,↓qdz,↓qer,↓qdx,↓qel,↓qdp,↓qef,↓qem,↓qen,↓qeo,↓qd3,↓qd2,↓qd4,↓qd5,↓qd7,↓qd1,↓qd8,↓qea,↓qd9,↓qdn,↓qdo,↓qd0,↓qaw,↓qdy,↓qeg,↓qee,↓qdl,↓qej,↓qed,↓qd6,qav,List.drop_zero,Nat.sub_zero,qc0,qcv,qcw,qdj,qat,qas,qaf,List.map_cons,List.map_nil,List.zip_cons_cons,List.zip_nil_right,List.zip_nil_left,qau,evs,evp,mkB,repB,blen,qae,qad,qac,qab,qc3,qc2,qdi,qdk,qdg,qdh,qcz,qc1,qcx,qcy,↓qde,↓qdd,↓qdf,↓qah,↓qag,↓qai,↓retQ,res,resAll,resOne,kill,apartOk,exp,injV,injB,pur,purs,purR,pursR,List.set_cons_zero,List.set_cons_succ,List.length_cons,List.length_nil,List.cons_append,List.nil_append,List.append_nil,List.append_assoc,List.length_append,List.reduceReplicate,Nat.reduceAdd,Nat.reduceMul,Nat.reduceSub,Nat.reduceEqDiff,Nat.reduceLT,Nat.zero_add,Nat.add_zero,Nat.mul_one,Int.reduceToNat,Int.toNat_natCast,Int.cast_ofNat_Int,Int.reduceLE,Int.reduceLT,Int.reduceEq,reduceCtorEq,↓reduceIte,Bool.true_eq_false,Bool.false_eq_true,Bool.not_true,Bool.not_false,true_and,and_true,and_assoc,qaj,sub1,qda,qc9,qdb,List.length_replicate,Nat.le_refl,false_implies,true_implies,ne_eq,not_true_eq_false,not_false_eq_true,decide_true,decide_false,decide_eq_true_eq,decide_eq_false_iff_not,Bool.not_eq_true',Bool.not_eq_false']
        repeat (refine And.intro (by omega) ?_)
        refine ⟨⟨i, Lx2, Lz2, Lx3, Lz3, ⟨vx2, vz2, vx3, vz3⟩, true⟩, hKK _ ⟨by simp only; omega, fun h => by simp at h, ex2, ez2, ex3, ez3, hr⟩ (by simp only; omega), Hd.of [0, 1, 2, 3, 4, 5, 6, 7, 8, 26, 30, 23, 25] (by decide) (by decide) (by simp) ?_⟩
        simp only [bq4_t,tl4_t,gc,gcVs,gcV,posOf,gcH,gcB,Option.map_some,Option.map_none,List.replicate_zero,List.drop_zero,↓qax,↓qay,↓qa0,↓qaz,↓qcu,↓qbj,↓qa1,↓qcm,↓qb3,↓qcj,↓qcb,↓qcf,↓qcg,↓qb4,↓qce,↓qck,↓qb5,↓qch,↓qci,↓qb6,↓qcc,↓qca,↓qb9,↓qb8,↓qb7,↓qa5,↓qbc,↓qa6,↓qbd,↓qa7,↓qbe,↓qa8,↓qbf,↓qa9,↓qbg,↓qba,↓qbh,↓qbb,↓qbi,↓qb2,↓qcl,↓qfe,↓qcp,↓qcq,↓qcr,↓qco,↓qcn,↓qbm,↓qbn,↓qb0,↓qbv,↓qbq,↓qbu,↓qbz,↓qbw,↓qby,↓qbx,↓qbr,↓qbp,↓qb1,↓qbs,↓qbt,↓qbo,↓qe1,↓qe0,↓qe5,↓qe7,↓qe6,↓qez,↓qey,↓qev,↓qew,↓qe4,↓qe3,↓qe2,qc7,↓qes,↓qet,↓qex,↓qc6,↓qc4,↓qc5,↓qe9,↓qfa,↓qfb,↓qe8,qaa,↓qeu,↓qeh,↓qei,↓qfd,↓qfc,↓qek,↓qdm,↓qdu,↓qeb,↓qec,↓qep,↓qeq,↓qdq,↓qdr,↓qdt,↓qds,↓qdz,↓qer,↓qdx,↓qel,↓qdp,↓qef,↓qem,↓qen,↓qeo,↓qd3,↓qd2,↓qd4,↓qd5,↓qd7,↓qd1,↓qd8,↓qea,↓qd9,↓qdn,↓qdo,↓qd0,↓qaw,↓qdy,↓qeg,↓qee,↓qdl,↓qej,↓qed,↓qd6,qav,List.drop_zero,Nat.sub_zero,qc0,qcv,qcw,qdj,qat,qas,qaf,List.map_cons,List.map_nil,List.zip_cons_cons,List.zip_nil_right,List.zip_nil_left,qau,evs,evp,mkB,repB,blen,qae,qad,qac,qab,qc3,qc2,qdi,qdk,qdg,qdh,qcz,qc1,qcx,qcy,↓qde,↓qdd,↓qdf,↓qah,↓qag,↓qai,↓retQ,res,resAll,resOne,kill,apartOk,exp,injV,injB,pur,purs,purR,pursR,List.set_cons_zero,List.set_cons_succ,List.length_cons,List.length_nil,List.cons_append,List.nil_append,List.append_nil,List.append_assoc,List.length_append,List.reduceReplicate,Nat.reduceAdd,Nat.reduceMul,Nat.reduceSub,Nat.reduceEqDiff,Nat.reduceLT,Nat.zero_add,Nat.add_zero,Nat.mul_one,Int.reduceToNat,Int.toNat_natCast,Int.cast_ofNat_Int,Int.reduceLE,Int.reduceLT,Int.reduceEq,reduceCtorEq,↓reduceIte,Bool.true_eq_false,Bool.false_eq_true,Bool.not_true,Bool.not_false,true_and,and_true,and_assoc,qaj,sub1,qda,qc9,qdb,List.length_replicate,Nat.le_refl,false_implies,true_implies,ne_eq,not_true_eq_false,not_false_eq_true,decide_true,decide_false,decide_eq_true_eq,decide_eq_false_iff_not,Bool.not_eq_true',Bool.not_eq_false']
    | true =>
      by_cases hbit : K / 2 ^ i % 2 = 1
      · rw [hbit] at hkb'
        obtain ⟨LA, hLA⟩ : ∃ L, Lc = L := ⟨_, rfl⟩
        obtain ⟨vA, hvA⟩ : ∃ v, S.c = v := ⟨_, rfl⟩
        have eA : Lg LA vA := by rw [← hLA, ← hvA]; exact hc
        obtain ⟨LB, hLB⟩ : ∃ L, Ld = L := ⟨_, rfl⟩
        obtain ⟨vB, hvB⟩ : ∃ v, S.d = v := ⟨_, rfl⟩
        have eB : Lg LB vB := by rw [← hLB, ← hvB]; exact hd
        obtain ⟨LC, hLC⟩ : ∃ L, La = L := ⟨_, rfl⟩
        obtain ⟨vC, hvC⟩ : ∃ v, S.a = v := ⟨_, rfl⟩
        have eC : Lg LC vC := by rw [← hLC, ← hvC]; exact ha
        obtain ⟨LD, hLD⟩ : ∃ L, Lb = L := ⟨_, rfl⟩
        obtain ⟨vD, hvD⟩ : ∃ v, S.b = v := ⟨_, rfl⟩
        have eD : Lg LD vD := by rw [← hLD, ← hvD]; exact hb
        have hrs : rst vX K i S = (lst vX ⟨vA, vB, vC, vD⟩).sw := by
          rw [rst, if_pos hbit, ← hvA, ← hvB, ← hvC, ← hvD]; rfl
        rw [hrs] at hr
        obtain ⟨Ls, hs⟩ : ∃ N, radd LA LB = N := ⟨_, rfl⟩
        obtain ⟨vs, gs⟩ : ∃ z, (vA + vB) % Pp = z := ⟨_, rfl⟩
        have es : Lg Ls vs := by rw [← hs, ← gs]; exact radd_lg eA eB
        have ps := eA.p2 eB
        obtain ⟨Lt, ht⟩ : ∃ N, rsub LA LB = N := ⟨_, rfl⟩
        obtain ⟨vt, gt⟩ : ∃ z, (vA - vB) % Pp = z := ⟨_, rfl⟩
        have et : Lg Lt vt := by rw [← ht, ← gt]; exact rsub_lg eA eB
        have pt := eA.p2 eB
        obtain ⟨Lss, hss⟩ : ∃ N, rmul Ls Ls = N := ⟨_, rfl⟩
        obtain ⟨vss, gss⟩ : ∃ z, (vs * vs) % Pp = z := ⟨_, rfl⟩
        have ess : Lg Lss vss := by rw [← hss, ← gss]; exact rmul_lg es es
        have pss := es.p2 es
        obtain ⟨Ltt, htt⟩ : ∃ N, rmul Lt Lt = N := ⟨_, rfl⟩
        obtain ⟨vtt, gtt⟩ : ∃ z, (vt * vt) % Pp = z := ⟨_, rfl⟩
        have ett : Lg Ltt vtt := by rw [← htt, ← gtt]; exact rmul_lg et et
        have ptt := et.p2 et
        obtain ⟨Le, he⟩ : ∃ N, rsub Lss Ltt = N := ⟨_, rfl⟩
        obtain ⟨ve, ge⟩ : ∃ z, (vss - vtt) % Pp = z := ⟨_, rfl⟩
        have ee : Lg Le ve := by rw [← he, ← ge]; exact rsub_lg ess ett
        have pe := ess.p2 ett
        obtain ⟨Lcd, hcd⟩ : ∃ N, rsub LC LD = N := ⟨_, rfl⟩
        obtain ⟨vcd, gcd⟩ : ∃ z, (vC - vD) % Pp = z := ⟨_, rfl⟩
        have ecd : Lg Lcd vcd := by rw [← hcd, ← gcd]; exact rsub_lg eC eD
        have pcd := eC.p2 eD
        obtain ⟨Lu, hu⟩ : ∃ N, rmul Lcd Ls = N := ⟨_, rfl⟩
        obtain ⟨vu, gu⟩ : ∃ z, (vcd * vs) % Pp = z := ⟨_, rfl⟩
        have eu : Lg Lu vu := by rw [← hu, ← gu]; exact rmul_lg ecd es
        have pu := ecd.p2 es
        obtain ⟨Lcs, hcs⟩ : ∃ N, radd LC LD = N := ⟨_, rfl⟩
        obtain ⟨vcs, gcs⟩ : ∃ z, (vC + vD) % Pp = z := ⟨_, rfl⟩
        have ecs : Lg Lcs vcs := by rw [← hcs, ← gcs]; exact radd_lg eC eD
        have pcs := eC.p2 eD
        obtain ⟨Lv, hv⟩ : ∃ N, rmul Lcs Lt = N := ⟨_, rfl⟩
        obtain ⟨vv, gv⟩ : ∃ z, (vcs * vt) % Pp = z := ⟨_, rfl⟩
        have ev : Lg Lv vv := by rw [← hv, ← gv]; exact rmul_lg ecs et
        have pv := ecs.p2 et
        obtain ⟨Lp, hp⟩ : ∃ N, radd Lu Lv = N := ⟨_, rfl⟩
        obtain ⟨vp, gp⟩ : ∃ z, (vu + vv) % Pp = z := ⟨_, rfl⟩
        have ep : Lg Lp vp := by rw [← hp, ← gp]; exact radd_lg eu ev
        have pp := eu.p2 ev
        obtain ⟨Lq, hq⟩ : ∃ N, rsub Lu Lv = N := ⟨_, rfl⟩
        obtain ⟨vq, gq⟩ : ∃ z, (vu - vv) % Pp = z := ⟨_, rfl⟩
        have eq : Lg Lq vq := by rw [← hq, ← gq]; exact rsub_lg eu ev
        have pq := eu.p2 ev
        obtain ⟨Lx3, hx3⟩ : ∃ N, rmul Lp Lp = N := ⟨_, rfl⟩
        obtain ⟨vx3, gx3⟩ : ∃ z, (vp * vp) % Pp = z := ⟨_, rfl⟩
        have ex3 : Lg Lx3 vx3 := by rw [← hx3, ← gx3]; exact rmul_lg ep ep
        have px3 := ep.p2 ep
        obtain ⟨Lqq, hqq⟩ : ∃ N, rmul Lq Lq = N := ⟨_, rfl⟩
        obtain ⟨vqq, gqq⟩ : ∃ z, (vq * vq) % Pp = z := ⟨_, rfl⟩
        have eqq : Lg Lqq vqq := by rw [← hqq, ← gqq]; exact rmul_lg eq eq
        have pqq := eq.p2 eq
        obtain ⟨Lz3, hz3⟩ : ∃ N, rmul LX Lqq = N := ⟨_, rfl⟩
        obtain ⟨vz3, gz3⟩ : ∃ z, (vX * vqq) % Pp = z := ⟨_, rfl⟩
        have ez3 : Lg Lz3 vz3 := by rw [← hz3, ← gz3]; exact rmul_lg eX eqq
        have pz3 := eX.p2 eqq
        obtain ⟨Lx2, hx2⟩ : ∃ N, rmul Lss Ltt = N := ⟨_, rfl⟩
        obtain ⟨vx2, gx2⟩ : ∃ z, (vss * vtt) % Pp = z := ⟨_, rfl⟩
        have ex2 : Lg Lx2 vx2 := by rw [← hx2, ← gx2]; exact rmul_lg ess ett
        have px2 := ess.p2 ett
        obtain ⟨Lm, hm⟩ : ∃ N, rmul Lk1 Le = N := ⟨_, rfl⟩
        obtain ⟨vm, gm⟩ : ∃ z, (vk1 * ve) % Pp = z := ⟨_, rfl⟩
        have em : Lg Lm vm := by rw [← hm, ← gm]; exact rmul_lg ek1 ee
        have pm := ek1.p2 ee
        obtain ⟨Ln, hn⟩ : ∃ N, radd Lss Lm = N := ⟨_, rfl⟩
        obtain ⟨vn, gn⟩ : ∃ z, (vss + vm) % Pp = z := ⟨_, rfl⟩
        have en : Lg Ln vn := by rw [← hn, ← gn]; exact radd_lg ess em
        have pn := ess.p2 em
        obtain ⟨Lz2, hz2⟩ : ∃ N, rmul Le Ln = N := ⟨_, rfl⟩
        obtain ⟨vz2, gz2⟩ : ∃ z, (ve * vn) % Pp = z := ⟨_, rfl⟩
        have ez2 : Lg Lz2 vz2 := by rw [← hz2, ← gz2]; exact rmul_lg ee en
        have pz2 := ee.p2 en
        have hl : lst vX ⟨vA, vB, vC, vD⟩ = ⟨vx2, vz2, vx3, vz3⟩ := by
          subst hvk1
          subst gz2 gn gm gx2 gz3 gqq gx3 gq gp gv gcs gu gcd ge gtt gss gt gs
          rfl
        rw [hl] at hr
        simp only [c0,c1,wd,d8,tmod8,hi32,hkcl,hkb',bq4_t,tl4_t,hLA,hLB,hLC,hLD,um,hk1,hs,ps,ht,pt,hss,pss,htt,ptt,he,pe,hcd,pcd,hu,pu,hcs,pcs,hv,pv,hp,pp,hq,pq,hx3,px3,hqq,pqq,hz3,pz3,hx2,px2,hm,pm,hn,pn,hz2,pz2,s37,s41,s43,s44,F37,F41,F43,F44,qdc,qc8,qaj,List.length_cons,List.length_nil,Nat.reduceAdd,Nat.le_refl,Nat.reduceLeDiff,Nat.reduceLT,true_and,and_true,↓qax,↓qay,↓qa0,↓qaz,↓qcu,↓qbj,↓qa1,↓qcm,↓qb3,↓qcj,↓qcb,↓qcf,↓qcg,↓qb4,↓qce,↓qck,↓qb5,↓qch,↓qci,↓qb6,↓qcc,↓qca,↓qb9,↓qb8,↓qb7,↓qa5,↓qbc,↓qa6,↓qbd,↓qa7,↓qbe,↓qa8,↓qbf,↓qa9,↓qbg,↓qba,↓qbh,↓qbb,↓qbi,↓qb2,↓qcl,↓qfe,↓qcp,↓qcq,↓qcr,↓qco,↓qcn,↓qbm,↓qbn,↓qb0,↓qbv,↓qbq,↓qbu,↓qbz,↓qbw,↓qby,↓qbx,↓qbr,↓qbp,↓qb1,↓qbs,↓qbt,↓qbo,↓qe1,↓qe0,↓qe5,↓qe7,↓qe6,↓qez,↓qey,↓qev,↓qew,↓qe4,↓qe3,↓qe2,qc7,↓qes,↓qet,↓qex,↓qc6,↓qc4,↓qc5,↓qe9,↓qfa,↓qfb,↓qe8,qaa,↓qeu,↓qeh,↓qei,↓qfd,↓qfc,↓qek,↓qdm,↓qdu,↓qeb,↓qec,↓qep,↓qeq,↓qdq,↓qdr,↓qdt,↓qds,↓qdz,↓qer,↓qdx,↓qel,↓qdp,↓qef,↓qem,↓qen,↓qeo,↓qd3,↓qd2,↓qd4,↓qd5,↓qd7,↓qd1,↓qd8,↓qea,↓qd9,↓qdn,↓qdo,↓qd0,↓qaw,↓qdy,↓qeg,↓qee,↓qdl,↓qej,↓qed,↓qd6,qav,List.drop_zero,Nat.sub_zero,qc0,qcv,qcw,qdj,qat,qas,qaf,List.map_cons,List.map_nil,List.zip_cons_cons,List.zip_nil_right,List.zip_nil_left,qau,evs,evp,mkB,repB,blen,qae,qad,qac,qab,qc3,qc2,qdi,qdk,qdg,qdh,qcz,qc1,qcx,qcy,↓qde,↓qdd,↓qdf,↓qah,↓qag,↓qai,↓retQ,res,resAll,resOne,kill,apartOk,exp,injV,injB,pur,purs,purR,pursR,List.set_cons_zero,List.set_cons_succ,List.length_cons,List.length_nil,List.cons_append,List.nil_append,List.append_nil,List.append_assoc,List.length_append,List.reduceReplicate,Nat.reduceAdd,Nat.reduceMul,Nat.reduceSub,Nat.reduceEqDiff,Nat.reduceLT,Nat.zero_add,Nat.add_zero,Nat.mul_one,Int.reduceToNat,Int.toNat_natCast,Int.cast_ofNat_Int,Int.reduceLE,Int.reduceLT,Int.reduceEq,reduceCtorEq,↓reduceIte,Bool.true_eq_false,Bool.false_eq_true,Bool.not_true,Bool.not_false,true_and,and_true,and_assoc,qaj,sub1,qda,qc9,qdb,List.length_replicate,Nat.le_refl,false_implies,true_implies,ne_eq,not_true_eq_false,not_false_eq_true,decide_true,decide_false,decide_eq_true_eq,decide_eq_false_iff_not,Bool.not_eq_true',Bool.not_eq_false']
        repeat (refine And.intro (by omega) ?_)
        refine ⟨⟨i, Lx3, Lz3, Lx2, Lz2, ⟨vx3, vz3, vx2, vz2⟩, true⟩, hKK _ ⟨by simp only; omega, fun h => by simp at h, ex3, ez3, ex2, ez2, hr⟩ (by simp only; omega), Hd.of [0, 1, 2, 3, 4, 5, 6, 7, 8, 24, 26, 27, 31] (by decide) (by decide) (by simp) ?_⟩
        simp only [bq4_t,tl4_t,gc,gcVs,gcV,posOf,gcH,gcB,Option.map_some,Option.map_none,List.replicate_zero,List.drop_zero,↓qax,↓qay,↓qa0,↓qaz,↓qcu,↓qbj,↓qa1,↓qcm,↓qb3,↓qcj,↓qcb,↓qcf,↓qcg,↓qb4,↓qce,↓qck,↓qb5,↓qch,↓qci,↓qb6,↓qcc,↓qca,↓qb9,↓qb8,↓qb7,↓qa5,↓qbc,↓qa6,↓qbd,↓qa7,↓qbe,↓qa8,↓qbf,↓qa9,↓qbg,↓qba,↓qbh,↓qbb,↓qbi,↓qb2,↓qcl,↓qfe,↓qcp,↓qcq,↓qcr,↓qco,↓qcn,↓qbm,↓qbn,↓qb0,↓qbv,↓qbq,↓qbu,↓qbz,↓qbw,↓qby,↓qbx,↓qbr,↓qbp,↓qb1,↓qbs,↓qbt,↓qbo,↓qe1,↓qe0,↓qe5,↓qe7,↓qe6,↓qez,↓qey,↓qev,↓qew,↓qe4,↓qe3,↓qe2,qc7,↓qes,↓qet,↓qex,↓qc6,↓qc4,↓qc5,↓qe9,↓qfa,↓qfb,↓qe8,qaa,↓qeu,↓qeh,↓qei,↓qfd,↓qfc,↓qek,↓qdm,↓qdu,↓qeb,↓qec,↓qep,↓qeq,↓qdq,↓qdr,↓qdt,↓qds,↓qdz,↓qer,↓qdx,↓qel,↓qdp,↓qef,↓qem,↓qen,↓qeo,↓qd3,↓qd2,↓qd4,↓qd5,↓qd7,↓qd1,↓qd8,↓qea,↓qd9,↓qdn,↓qdo,↓qd0,↓qaw,↓qdy,↓qeg,↓qee,↓qdl,↓qej,↓qed,↓qd6,qav,List.drop_zero,Nat.sub_zero,qc0,qcv,qcw,qdj,qat,qas,qaf,List.map_cons,List.map_nil,List.zip_cons_cons,List.zip_nil_right,List.zip_nil_left,qau,evs,evp,mkB,repB,blen,qae,qad,qac,qab,qc3,qc2,qdi,qdk,qdg,qdh,qcz,qc1,qcx,qcy,↓qde,↓qdd,↓qdf,↓qah,↓qag,↓qai,↓retQ,res,resAll,resOne,kill,apartOk,exp,injV,injB,pur,purs,purR,pursR,List.set_cons_zero,List.set_cons_succ,List.length_cons,List.length_nil,List.cons_append,List.nil_append,List.append_nil,List.append_assoc,List.length_append,List.reduceReplicate,Nat.reduceAdd,Nat.reduceMul,Nat.reduceSub,Nat.reduceEqDiff,Nat.reduceLT,Nat.zero_add,Nat.add_zero,Nat.mul_one,Int.reduceToNat,Int.toNat_natCast,Int.cast_ofNat_Int,Int.reduceLE,Int.reduceLT,Int.reduceEq,reduceCtorEq,↓reduceIte,Bool.true_eq_false,Bool.false_eq_true,Bool.not_true,Bool.not_false,true_and,and_true,and_assoc,qaj,sub1,qda,qc9,qdb,List.length_replicate,Nat.le_refl,false_implies,true_implies,ne_eq,not_true_eq_false,not_false_eq_true,decide_true,decide_false,decide_eq_true_eq,decide_eq_false_iff_not,Bool.not_eq_true',Bool.not_eq_false']
      · have hb0 : K / 2 ^ i % 2 = 0 := by omega
        rw [hb0] at hkb'
        obtain ⟨LA, hLA⟩ : ∃ L, La = L := ⟨_, rfl⟩
        obtain ⟨vA, hvA⟩ : ∃ v, S.a = v := ⟨_, rfl⟩
        have eA : Lg LA vA := by rw [← hLA, ← hvA]; exact ha
        obtain ⟨LB, hLB⟩ : ∃ L, Lb = L := ⟨_, rfl⟩
        obtain ⟨vB, hvB⟩ : ∃ v, S.b = v := ⟨_, rfl⟩
        have eB : Lg LB vB := by rw [← hLB, ← hvB]; exact hb
        obtain ⟨LC, hLC⟩ : ∃ L, Lc = L := ⟨_, rfl⟩
        obtain ⟨vC, hvC⟩ : ∃ v, S.c = v := ⟨_, rfl⟩
        have eC : Lg LC vC := by rw [← hLC, ← hvC]; exact hc
        obtain ⟨LD, hLD⟩ : ∃ L, Ld = L := ⟨_, rfl⟩
        obtain ⟨vD, hvD⟩ : ∃ v, S.d = v := ⟨_, rfl⟩
        have eD : Lg LD vD := by rw [← hLD, ← hvD]; exact hd
        have hrs : rst vX K i S = lst vX ⟨vA, vB, vC, vD⟩ := by
          rw [rst, if_neg hbit, ← hvA, ← hvB, ← hvC, ← hvD]
        rw [hrs] at hr
        obtain ⟨Ls, hs⟩ : ∃ N, radd LA LB = N := ⟨_, rfl⟩
        obtain ⟨vs, gs⟩ : ∃ z, (vA + vB) % Pp = z := ⟨_, rfl⟩
        have es : Lg Ls vs := by rw [← hs, ← gs]; exact radd_lg eA eB
        have ps := eA.p2 eB
        obtain ⟨Lt, ht⟩ : ∃ N, rsub LA LB = N := ⟨_, rfl⟩
        obtain ⟨vt, gt⟩ : ∃ z, (vA - vB) % Pp = z := ⟨_, rfl⟩
        have et : Lg Lt vt := by rw [← ht, ← gt]; exact rsub_lg eA eB
        have pt := eA.p2 eB
        obtain ⟨Lss, hss⟩ : ∃ N, rmul Ls Ls = N := ⟨_, rfl⟩
        obtain ⟨vss, gss⟩ : ∃ z, (vs * vs) % Pp = z := ⟨_, rfl⟩
        have ess : Lg Lss vss := by rw [← hss, ← gss]; exact rmul_lg es es
        have pss := es.p2 es
        obtain ⟨Ltt, htt⟩ : ∃ N, rmul Lt Lt = N := ⟨_, rfl⟩
        obtain ⟨vtt, gtt⟩ : ∃ z, (vt * vt) % Pp = z := ⟨_, rfl⟩
        have ett : Lg Ltt vtt := by rw [← htt, ← gtt]; exact rmul_lg et et
        have ptt := et.p2 et
        obtain ⟨Le, he⟩ : ∃ N, rsub Lss Ltt = N := ⟨_, rfl⟩
        obtain ⟨ve, ge⟩ : ∃ z, (vss - vtt) % Pp = z := ⟨_, rfl⟩
        have ee : Lg Le ve := by rw [← he, ← ge]; exact rsub_lg ess ett
        have pe := ess.p2 ett
        obtain ⟨Lcd, hcd⟩ : ∃ N, rsub LC LD = N := ⟨_, rfl⟩
        obtain ⟨vcd, gcd⟩ : ∃ z, (vC - vD) % Pp = z := ⟨_, rfl⟩
        have ecd : Lg Lcd vcd := by rw [← hcd, ← gcd]; exact rsub_lg eC eD
        have pcd := eC.p2 eD
        obtain ⟨Lu, hu⟩ : ∃ N, rmul Lcd Ls = N := ⟨_, rfl⟩
        obtain ⟨vu, gu⟩ : ∃ z, (vcd * vs) % Pp = z := ⟨_, rfl⟩
        have eu : Lg Lu vu := by rw [← hu, ← gu]; exact rmul_lg ecd es
        have pu := ecd.p2 es
        obtain ⟨Lcs, hcs⟩ : ∃ N, radd LC LD = N := ⟨_, rfl⟩
        obtain ⟨vcs, gcs⟩ : ∃ z, (vC + vD) % Pp = z := ⟨_, rfl⟩
        have ecs : Lg Lcs vcs := by rw [← hcs, ← gcs]; exact radd_lg eC eD
        have pcs := eC.p2 eD
        obtain ⟨Lv, hv⟩ : ∃ N, rmul Lcs Lt = N := ⟨_, rfl⟩
        obtain ⟨vv, gv⟩ : ∃ z, (vcs * vt) % Pp = z := ⟨_, rfl⟩
        have ev : Lg Lv vv := by rw [← hv, ← gv]; exact rmul_lg ecs et
        have pv := ecs.p2 et
        obtain ⟨Lp, hp⟩ : ∃ N, radd Lu Lv = N := ⟨_, rfl⟩
        obtain ⟨vp, gp⟩ : ∃ z, (vu + vv) % Pp = z := ⟨_, rfl⟩
        have ep : Lg Lp vp := by rw [← hp, ← gp]; exact radd_lg eu ev
        have pp := eu.p2 ev
        obtain ⟨Lq, hq⟩ : ∃ N, rsub Lu Lv = N := ⟨_, rfl⟩
        obtain ⟨vq, gq⟩ : ∃ z, (vu - vv) % Pp = z := ⟨_, rfl⟩
        have eq : Lg Lq vq := by rw [← hq, ← gq]; exact rsub_lg eu ev
        have pq := eu.p2 ev
        obtain ⟨Lx3, hx3⟩ : ∃ N, rmul Lp Lp = N := ⟨_, rfl⟩
        obtain ⟨vx3, gx3⟩ : ∃ z, (vp * vp) % Pp = z := ⟨_, rfl⟩
        have ex3 : Lg Lx3 vx3 := by rw [← hx3, ← gx3]; exact rmul_lg ep ep
        have px3 := ep.p2 ep
        obtain ⟨Lqq, hqq⟩ : ∃ N, rmul Lq Lq = N := ⟨_, rfl⟩
        obtain ⟨vqq, gqq⟩ : ∃ z, (vq * vq) % Pp = z := ⟨_, rfl⟩
        have eqq : Lg Lqq vqq := by rw [← hqq, ← gqq]; exact rmul_lg eq eq
        have pqq := eq.p2 eq
        obtain ⟨Lz3, hz3⟩ : ∃ N, rmul LX Lqq = N := ⟨_, rfl⟩
        obtain ⟨vz3, gz3⟩ : ∃ z, (vX * vqq) % Pp = z := ⟨_, rfl⟩
        have ez3 : Lg Lz3 vz3 := by rw [← hz3, ← gz3]; exact rmul_lg eX eqq
        have pz3 := eX.p2 eqq
        obtain ⟨Lx2, hx2⟩ : ∃ N, rmul Lss Ltt = N := ⟨_, rfl⟩
        obtain ⟨vx2, gx2⟩ : ∃ z, (vss * vtt) % Pp = z := ⟨_, rfl⟩
        have ex2 : Lg Lx2 vx2 := by rw [← hx2, ← gx2]; exact rmul_lg ess ett
        have px2 := ess.p2 ett
        obtain ⟨Lm, hm⟩ : ∃ N, rmul Lk1 Le = N := ⟨_, rfl⟩
        obtain ⟨vm, gm⟩ : ∃ z, (vk1 * ve) % Pp = z := ⟨_, rfl⟩
        have em : Lg Lm vm := by rw [← hm, ← gm]; exact rmul_lg ek1 ee
        have pm := ek1.p2 ee
        obtain ⟨Ln, hn⟩ : ∃ N, radd Lss Lm = N := ⟨_, rfl⟩
        obtain ⟨vn, gn⟩ : ∃ z, (vss + vm) % Pp = z := ⟨_, rfl⟩
        have en : Lg Ln vn := by rw [← hn, ← gn]; exact radd_lg ess em
        have pn := ess.p2 em
        obtain ⟨Lz2, hz2⟩ : ∃ N, rmul Le Ln = N := ⟨_, rfl⟩
        obtain ⟨vz2, gz2⟩ : ∃ z, (ve * vn) % Pp = z := ⟨_, rfl⟩
        have ez2 : Lg Lz2 vz2 := by rw [← hz2, ← gz2]; exact rmul_lg ee en
        have pz2 := ee.p2 en
        have hl : lst vX ⟨vA, vB, vC, vD⟩ = ⟨vx2, vz2, vx3, vz3⟩ := by
          subst hvk1
          subst gz2 gn gm gx2 gz3 gqq gx3 gq gp gv gcs gu gcd ge gtt gss gt gs
          rfl
        rw [hl] at hr
        simp only [c0,c1,wd,d8,tmod8,hi32,hkcl,hkb',bq4_t,tl4_t,hLA,hLB,hLC,hLD,um,hk1,hs,ps,ht,pt,hss,pss,htt,ptt,he,pe,hcd,pcd,hu,pu,hcs,pcs,hv,pv,hp,pp,hq,pq,hx3,px3,hqq,pqq,hz3,pz3,hx2,px2,hm,pm,hn,pn,hz2,pz2,s37,s41,s43,s44,F37,F41,F43,F44,qdc,qc8,qaj,List.length_cons,List.length_nil,Nat.reduceAdd,Nat.le_refl,Nat.reduceLeDiff,Nat.reduceLT,true_and,and_true,↓qax,↓qay,↓qa0,↓qaz,↓qcu,↓qbj,↓qa1,↓qcm,↓qb3,↓qcj,↓qcb,↓qcf,↓qcg,↓qb4,↓qce,↓qck,↓qb5,↓qch,↓qci,↓qb6,↓qcc,↓qca,↓qb9,↓qb8,↓qb7,↓qa5,↓qbc,↓qa6,↓qbd,↓qa7,↓qbe,↓qa8,↓qbf,↓qa9,↓qbg,↓qba,↓qbh,↓qbb,↓qbi,↓qb2,↓qcl,↓qfe,↓qcp,↓qcq,↓qcr,↓qco,↓qcn,↓qbm,↓qbn,↓qb0,↓qbv,↓qbq,↓qbu,↓qbz,↓qbw,↓qby,↓qbx,↓qbr,↓qbp,↓qb1,↓qbs,↓qbt,↓qbo,↓qe1,↓qe0,↓qe5,↓qe7,↓qe6,↓qez,↓qey,↓qev,↓qew,↓qe4,↓qe3,↓qe2,qc7,↓qes,↓qet,↓qex,↓qc6,↓qc4,↓qc5,↓qe9,↓qfa,↓qfb,↓qe8,qaa,↓qeu,↓qeh,↓qei,↓qfd,↓qfc,↓qek,↓qdm,↓qdu,↓qeb,↓qec,↓qep,↓qeq,↓qdq,↓qdr,↓qdt,↓qds,↓qdz,↓qer,↓qdx,↓qel,↓qdp,↓qef,↓qem,↓qen,↓qeo,↓qd3,↓qd2,↓qd4,↓qd5,↓qd7,↓qd1,↓qd8,↓qea,↓qd9,↓qdn,↓qdo,↓qd0,↓qaw,↓qdy,↓qeg,↓qee,↓qdl,↓qej,↓qed,↓qd6,qav,List.drop_zero,Nat.sub_zero,qc0,qcv,qcw,qdj,qat,qas,qaf,List.map_cons,List.map_nil,List.zip_cons_cons,List.zip_nil_right,List.zip_nil_left,qau,evs,evp,mkB,repB,blen,qae,qad,qac,qab,qc3,qc2,qdi,qdk,qdg,qdh,qcz,qc1,qcx,qcy,↓qde,↓qdd,↓qdf,↓qah,↓qag,↓qai,↓retQ,res,resAll,resOne,kill,apartOk,exp,injV,injB,pur,purs,purR,pursR,List.set_cons_zero,List.set_cons_succ,List.length_cons,List.length_nil,List.cons_append,List.nil_append,List.append_nil,List.append_assoc,List.length_append,List.reduceReplicate,Nat.reduceAdd,Nat.reduceMul,Nat.reduceSub,Nat.reduceEqDiff,Nat.reduceLT,Nat.zero_add,Nat.add_zero,Nat.mul_one,Int.reduceToNat,Int.toNat_natCast,Int.cast_ofNat_Int,Int.reduceLE,Int.reduceLT,Int.reduceEq,reduceCtorEq,↓reduceIte,Bool.true_eq_false,Bool.false_eq_true,Bool.not_true,Bool.not_false,true_and,and_true,and_assoc,qaj,sub1,qda,qc9,qdb,List.length_replicate,Nat.le_refl,false_implies,true_implies,ne_eq,not_true_eq_false,not_false_eq_true,decide_true,decide_false,decide_eq_true_eq,decide_eq_false_iff_not,Bool.not_eq_true',Bool.not_eq_false']
        repeat (refine And.intro (by omega) ?_)
        refine ⟨⟨i, Lx2, Lz2, Lx3, Lz3, ⟨vx2, vz2, vx3, vz3⟩, true⟩, hKK _ ⟨by simp only; omega, fun h => by simp at h, ex2, ez2, ex3, ez3, hr⟩ (by simp only; omega), Hd.of [0, 1, 2, 3, 4, 5, 6, 7, 8, 27, 31, 24, 26] (by decide) (by decide) (by simp) ?_⟩
        simp only [bq4_t,tl4_t,gc,gcVs,gcV,posOf,gcH,gcB,Option.map_some,Option.map_none,List.replicate_zero,List.drop_zero,↓qax,↓qay,↓qa0,↓qaz,↓qcu,↓qbj,↓qa1,↓qcm,↓qb3,↓qcj,↓qcb,↓qcf,↓qcg,↓qb4,↓qce,↓qck,↓qb5,↓qch,↓qci,↓qb6,↓qcc,↓qca,↓qb9,↓qb8,↓qb7,↓qa5,↓qbc,↓qa6,↓qbd,↓qa7,↓qbe,↓qa8,↓qbf,↓qa9,↓qbg,↓qba,↓qbh,↓qbb,↓qbi,↓qb2,↓qcl,↓qfe,↓qcp,↓qcq,↓qcr,↓qco,↓qcn,↓qbm,↓qbn,↓qb0,↓qbv,↓qbq,↓qbu,↓qbz,↓qbw,↓qby,↓qbx,↓qbr,↓qbp,↓qb1,↓qbs,↓qbt,↓qbo,↓qe1,↓qe0,↓qe5,↓qe7,↓qe6,↓qez,↓qey,↓qev,↓qew,↓qe4,↓qe3,↓qe2,qc7,↓qes,↓qet,↓qex,↓qc6,↓qc4,↓qc5,↓qe9,↓qfa,↓qfb,↓qe8,qaa,↓qeu,↓qeh,↓qei,↓qfd,↓qfc,↓qek,↓qdm,↓qdu,↓qeb,↓qec,↓qep,↓qeq,↓qdq,↓qdr,↓qdt,↓qds,↓qdz,↓qer,↓qdx,↓qel,↓qdp,↓qef,↓qem,↓qen,↓qeo,↓qd3,↓qd2,↓qd4,↓qd5,↓qd7,↓qd1,↓qd8,↓qea,↓qd9,↓qdn,↓qdo,↓qd0,↓qaw,↓qdy,↓qeg,↓qee,↓qdl,↓qej,↓qed,↓qd6,qav,List.drop_zero,Nat.sub_zero,qc0,qcv,qcw,qdj,qat,qas,qaf,List.map_cons,List.map_nil,List.zip_cons_cons,List.zip_nil_right,List.zip_nil_left,qau,evs,evp,mkB,repB,blen,qae,qad,qac,qab,qc3,qc2,qdi,qdk,qdg,qdh,qcz,qc1,qcx,qcy,↓qde,↓qdd,↓qdf,↓qah,↓qag,↓qai,↓retQ,res,resAll,resOne,kill,apartOk,exp,injV,injB,pur,purs,purR,pursR,List.set_cons_zero,List.set_cons_succ,List.length_cons,List.length_nil,List.cons_append,List.nil_append,List.append_nil,List.append_assoc,List.length_append,List.reduceReplicate,Nat.reduceAdd,Nat.reduceMul,Nat.reduceSub,Nat.reduceEqDiff,Nat.reduceLT,Nat.zero_add,Nat.add_zero,Nat.mul_one,Int.reduceToNat,Int.toNat_natCast,Int.cast_ofNat_Int,Int.reduceLE,Int.reduceLT,Int.reduceEq,reduceCtorEq,↓reduceIte,Bool.true_eq_false,Bool.false_eq_true,Bool.not_true,Bool.not_false,true_and,and_true,and_assoc,qaj,sub1,qda,qc9,qdb,List.length_replicate,Nat.le_refl,false_implies,true_implies,ne_eq,not_true_eq_false,not_false_eq_true,decide_true,decide_false,decide_eq_true_eq,decide_eq_false_iff_not,Bool.not_eq_true',Bool.not_eq_false']
end Am
