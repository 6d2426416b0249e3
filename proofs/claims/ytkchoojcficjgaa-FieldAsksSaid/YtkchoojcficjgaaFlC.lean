/-
Working texts: contracts of functions, and the numbers behind them.
-/
import Derived.Test.YtkchoojcficjgaaFlA
set_option linter.unusedSimpArgs false
set_option linter.unusedVariables false
set_option linter.unusedSectionVars false
set_option linter.unusedSimpArgs false
set_option linter.unusedVariables false
set_option maxRecDepth 20000
namespace Am
open Go.Proofs
/-! ### FieldAsks -/
def preAsk (ds : List D) : Prop := ∃ (a b : List Int) (s : Bool), ds = [.v (.ints .u8 a), .v (.ints .u8 b), .v (.bool s)] ∧ Key a ∧ Key b
theorem xor128 {x : Int} (h : 0 ≤ x ∧ x < 256) : 0 ≤ bXor .u8 x 128 ∧ bXor .u8 x 128 < 256 ∧ bXor .u8 x 128 % 128 = x % 128 := by
  have hb : 0 ≤ bXor .u8 x 128 ∧ bXor .u8 x 128 < 256 := by unfold bXor; rw [wrap_u8]; omega
  refine ⟨hb.1, hb.2, ?_⟩
  have key : ∀ n : Nat, n < 256 → bXor .u8 (n : Int) 128 % 128 = (n : Int) % 128 := by decide +kernel
  obtain ⟨n, rfl⟩ := Int.eq_ofNat_of_zero_le h.1
  exact key n (by omega)
theorem kv_low {a : List Int} {v : Int} (h : Key a) (hv : 0 ≤ v ∧ v < 256) (hm : v % 128 = getI a 31 % 128) : Key (a.set 31 v) ∧ kv (a.set 31 v) = kv a := by
  have hk : Key (a.set 31 v) := ⟨by simp [h.1], h.2.set _ hv.1 hv.2⟩
  refine ⟨hk, ?_⟩
  have h1 := (key_low h).2
  have h2 := (key_low hk).2
  have e : (a.set 31 v).set 31 (getI (a.set 31 v) 31 % 128) = a.set 31 (getI a 31 % 128) := by
    rw [List.set_set, getI_set _ _ _ _ (by rw [h.1]; decide), if_pos rfl, hm]
  rw [e, h1] at h2
  unfold kv
  rw [h2]
theorem lawFieldAsks : ∀ ds, preAsk ds → Does Try.prog gl 4 (injV ds 4) (gl ++ injB true ds) (out (4 + (injB true ds).length) (FTrue ds)) := by
  refine fdoesA (l := [(23, s23), (24, s24), (25, s25), (30, s30), (33, s33), (34, s34), (35, s35)]) mixed gl_plain rfl Try.func4 comp4 compR4 nt4 (by simp only [List.mem_cons, List.not_mem_nil, or_false, forall_eq_or_imp, forall_eq]; exact ⟨ok23, ok24, ok25, ok30, ok33, ok34, ok35⟩) fun ds ⟨a, b, s, hd, ha, hb⟩ hA => ?_
  subst hd
  have hal := ha.1
  have hbl := hb.1
  have sa : sub a 0 32 = a := qda hal
  have sb : sub b 0 32 = b := qda hbl
  have hX := xo_el ha
  have hp := plc_lg ha
  obtain ⟨X, hXX⟩ : ∃ X, xo a = X := ⟨_, rfl⟩
  obtain ⟨p, hpp⟩ : ∃ p, plc a = p := ⟨_, rfl⟩
  have hXX' : dig 2251799813685248 5 (val 256 a) = X := hXX
  rw [hXX] at hX; rw [hpp] at hp
  have hXl := hX.len
  have sX : sub X 0 5 = X := qda hXl
  have spX : spl [0, 0, 0, 0, 0] 0 X = X := qc6 (by simp [hXl])
  have k1 := ha.p1
  have k2 := ha.p
  have q1 := hX.p1
  have g1 := hp.pk
  obtain ⟨k, hk⟩ : ∃ k, dig 256 32 (val 65536 p) = k := ⟨_, rfl⟩
  have b1 : bytesF X = k := by rw [hX.bytes, ← hk, hp.is]
  have hkl : k.length = 32 := by rw [← hk, qaj]
  have hkd : Dig 256 k := by rw [← hk]; exact dig_dig (by decide) _ _
  have sk : sub k 0 32 = k := qda hkl
  have spk : spl [0, 0, 0, 0, 0, 0, 0, 0, 0, 0, 0, 0, 0, 0, 0, 0, 0, 0, 0, 0, 0, 0, 0, 0, 0, 0, 0, 0, 0, 0, 0, 0] 0 k = k := qc6 (by simp [hkl])
  have hg := hkd.all (by decide) 0
  have w1 : bAnd .u8 (getI k 0) 1 = getI k 0 % 2 := bAnd_one8 hg.1 hg.2
  have r32 : List.replicate 32 (0 : Int) = [0, 0, 0, 0, 0, 0, 0, 0, 0, 0, 0, 0, 0, 0, 0, 0, 0, 0, 0, 0, 0, 0, 0, 0, 0, 0, 0, 0, 0, 0, 0, 0] := rfl
  have pA : pre23 [] := rfl
  have hsa := hal
  cases s with
  | true =>
    have hx := xor128 (ha.2.all (by decide) 31)
    have spa : spl b 0 a = a := qc6 (by omega)
    obtain ⟨hkc, hcv⟩ := kv_low ha ⟨hx.1, hx.2.1⟩ hx.2.2
    obtain ⟨c, hc⟩ : ∃ c, a.set 31 (bXor .u8 (getI a 31) 128) = c := ⟨_, rfl⟩
    rw [hc] at hkc hcv
    have hcl := hkc.1
    have sc : sub c 0 32 = c := qda hcl
    have hY := xo_el hkc
    have hq := plc_lg hkc
    rw [hcv] at hY hq
    obtain ⟨Y, hYY⟩ : ∃ Y, xo c = Y := ⟨_, rfl⟩
    obtain ⟨q, hqq⟩ : ∃ q, plc c = q := ⟨_, rfl⟩
    have hYY' : dig 2251799813685248 5 (val 256 c) = Y := hYY
    rw [hYY] at hY; rw [hqq] at hq
    have hYl := hY.len
    have sY : sub Y 0 5 = Y := qda hYl
    have spY : spl [0, 0, 0, 0, 0] 0 Y = Y := qc6 (by simp [hYl])
    have k3 := hkc.p1
    have k4 := hkc.p
    have q2 := hX.p2 hY
    have g2 := hq.pk
    have b2 : bytesF Y = k := by rw [hY.bytes, ← hk, hp.is]
    have b3 : dig 256 32 (val 65536 q) = k := by rw [← hk, hq.is, hp.is]
    simp only [s23, s24, s25, s30, s33, s34, s35]
    simp only [ir4,rs4,gl,FTrue,hal,hbl,sa,sb,spa,hc,hcl,sc,hXX',hpp,hYY',hqq,hXl,hYl,sX,sY,spX,spY,k1,k2,k3,k4,q1,q2,g1,g2,hk,b1,b2,b3,hkl,sk,spk,w1,pA,eq_self,BEq.rfl,s23,s24,s25,s30,s33,s34,s35,F23,F24,F25,F30,F33,F34,F35,qda,qc6,qaj,List.length_cons,List.length_nil,Nat.reduceAdd,Nat.le_refl,Nat.reduceLeDiff,Nat.reduceLT,true_and,and_true,↓qax,↓qay,↓qa0,↓qaz,↓qcs,↓qbj,↓qa1,↓qcl,↓qb3,↓qci,↓qcb,↓qce,↓qcf,↓qb4,↓qcd,↓qcj,↓qb5,↓qcg,↓qch,↓qb6,↓qcc,↓qca,↓qb9,↓qb8,↓qb7,↓qa5,↓qbc,↓qa6,↓qbd,↓qa7,↓qbe,↓qa8,↓qbf,↓qa9,↓qbg,↓qba,↓qbh,↓qbb,↓qbi,↓qb2,↓qck,↓qfc,↓qco,↓qcp,↓qcq,↓qcn,↓qcm,↓qbm,↓qbn,↓qb0,↓qbv,↓qbq,↓qbu,↓qbz,↓qbw,↓qby,↓qbx,↓qbr,↓qbp,↓qb1,↓qbs,↓qbt,↓qbo,↓qez,↓qey,↓qe3,↓qe5,↓qe4,↓qex,↓qew,↓qet,↓qeu,↓qe2,↓qe1,↓qe0,qc5,↓qeq,↓qer,↓qev,↓qc4,↓qc2,↓qc3,↓qe7,↓qe8,↓qe9,↓qe6,qaa,↓qes,↓qef,↓qeg,↓qfb,↓qfa,↓qei,↓qdk,↓qds,↓qd9,↓qea,↓qen,↓qeo,↓qdo,↓qdp,↓qdr,↓qdq,↓qdx,↓qep,↓qdv,↓qej,↓qdn,↓qed,↓qek,↓qel,↓qem,↓qd1,↓qd0,↓qd2,↓qd3,↓qd5,↓qdz,↓qd6,↓qd8,↓qd7,↓qdl,↓qdm,↓qdy,↓qaw,↓qdw,↓qee,↓qec,↓qdj,↓qeh,↓qeb,↓qd4,qav,List.drop_zero,Nat.sub_zero,qcy,qct,qcu,qdh,qat,qas,qaf,List.map_cons,List.map_nil,List.zip_cons_cons,List.zip_nil_right,List.zip_nil_left,qau,evs,evp,mkB,repB,blen,qae,qad,qac,qab,qc1,qc0,qdg,qdi,qde,qdf,qcx,qcz,qcv,qcw,↓qdc,↓qdb,↓qdd,↓qah,↓qag,↓qai,↓retQ,res,resAll,resOne,kill,apartOk,exp,injV,injB,pur,purs,purR,pursR,List.set_cons_zero,List.set_cons_succ,List.length_cons,List.length_nil,List.cons_append,List.nil_append,List.append_nil,List.append_assoc,List.length_append,List.reduceReplicate,Nat.reduceAdd,Nat.reduceMul,Nat.reduceSub,Nat.reduceEqDiff,Nat.reduceLT,Nat.zero_add,Nat.add_zero,Nat.mul_one,Int.reduceToNat,Int.toNat_natCast,Int.cast_ofNat_Int,Int.reduceLE,Int.reduceLT,Int.reduceEq,reduceCtorEq,↓reduceIte,Bool.true_eq_false,Bool.false_eq_true,Bool.not_true,Bool.not_false,true_and,and_true,and_assoc,qaj,sub1,qc8,qc7,qc9,List.length_replicate,Nat.le_refl,false_implies,true_implies,ne_eq,not_true_eq_false,not_false_eq_true,decide_true,decide_false,decide_eq_true_eq,decide_eq_false_iff_not,Bool.not_eq_true',Bool.not_eq_false']
    repeat (refine And.intro (by omega) ?_)
    simp only [out, outs, out1, pur, and_self]
  | false =>
    have hY := xo_el hb
    have hq := plc_lg hb
    obtain ⟨Y, hYY⟩ : ∃ Y, xo b = Y := ⟨_, rfl⟩
    obtain ⟨q, hqq⟩ : ∃ q, plc b = q := ⟨_, rfl⟩
    have hYY' : dig 2251799813685248 5 (val 256 b) = Y := hYY
    rw [hYY] at hY; rw [hqq] at hq
    have hYl := hY.len
    have sY : sub Y 0 5 = Y := qda hYl
    have spY : spl [0, 0, 0, 0, 0] 0 Y = Y := qc6 (by simp [hYl])
    have k3 := hb.p1
    have k4 := hb.p
    have q2 := hX.p2 hY
    have g2 := hq.pk
    obtain ⟨j, hj⟩ : ∃ j, dig 256 32 (val 65536 q) = j := ⟨_, rfl⟩
    have b2 : bytesF Y = j := by rw [hY.bytes, ← hj, hq.is]
    have hjl : j.length = 32 := by rw [← hj, qaj]
    simp only [s23, s24, s25, s30, s33, s34, s35]
    simp only [ir4,rs4,gl,FTrue,hal,hbl,sa,sb,hXX',hpp,hYY',hqq,hXl,hYl,sX,sY,spX,spY,k1,k2,k3,k4,q1,q2,g1,g2,hk,hj,hjl,b1,b2,hkl,sk,spk,w1,pA,eq_self,BEq.rfl,s23,s24,s25,s30,s33,s34,s35,F23,F24,F25,F30,F33,F34,F35,qda,qc6,qaj,List.length_cons,List.length_nil,Nat.reduceAdd,Nat.le_refl,Nat.reduceLeDiff,Nat.reduceLT,true_and,and_true,↓qax,↓qay,↓qa0,↓qaz,↓qcs,↓qbj,↓qa1,↓qcl,↓qb3,↓qci,↓qcb,↓qce,↓qcf,↓qb4,↓qcd,↓qcj,↓qb5,↓qcg,↓qch,↓qb6,↓qcc,↓qca,↓qb9,↓qb8,↓qb7,↓qa5,↓qbc,↓qa6,↓qbd,↓qa7,↓qbe,↓qa8,↓qbf,↓qa9,↓qbg,↓qba,↓qbh,↓qbb,↓qbi,↓qb2,↓qck,↓qfc,↓qco,↓qcp,↓qcq,↓qcn,↓qcm,↓qbm,↓qbn,↓qb0,↓qbv,↓qbq,↓qbu,↓qbz,↓qbw,↓qby,↓qbx,↓qbr,↓qbp,↓qb1,↓qbs,↓qbt,↓qbo,↓qez,↓qey,↓qe3,↓qe5,↓qe4,↓qex,↓qew,↓qet,↓qeu,↓qe2,↓qe1,↓qe0,qc5,↓qeq,↓qer,↓qev,↓qc4,↓qc2,↓qc3,↓qe7,↓qe8,↓qe9,↓qe6,qaa,↓qes,↓qef,↓qeg,↓qfb,↓qfa,↓qei,↓qdk,↓qds,↓qd9,↓qea,↓qen,↓qeo,↓qdo,↓qdp,↓qdr,↓qdq,↓qdx,↓qep,↓qdv,↓qej,↓qdn,↓qed,↓qek,↓qel,↓qem,↓qd1,↓qd0,↓qd2,↓qd3,↓qd5,↓qdz,↓qd6,↓qd8,↓qd7,↓qdl,↓qdm,↓qdy,↓qaw,↓qdw,↓qee,↓qec,↓qdj,↓qeh,↓qeb,↓qd4,qav,List.drop_zero,Nat.sub_zero,qcy,qct,qcu,qdh,qat,qas,qaf,List.map_cons,List.map_nil,List.zip_cons_cons,List.zip_nil_right,List.zip_nil_left,qau,evs,evp,mkB,repB,blen,qae,qad,qac,qab,qc1,qc0,qdg,qdi,qde,qdf,qcx,qcz,qcv,qcw,↓qdc,↓qdb,↓qdd,↓qah,↓qag,↓qai,↓retQ,res,resAll,resOne,kill,apartOk,exp,injV,injB,pur,purs,purR,pursR,List.set_cons_zero,List.set_cons_succ,List.length_cons,List.length_nil,List.cons_append,List.nil_append,List.append_nil,List.append_assoc,List.length_append,List.reduceReplicate,Nat.reduceAdd,Nat.reduceMul,Nat.reduceSub,Nat.reduceEqDiff,Nat.reduceLT,Nat.zero_add,Nat.add_zero,Nat.mul_one,Int.reduceToNat,Int.toNat_natCast,Int.cast_ofNat_Int,Int.reduceLE,Int.reduceLT,Int.reduceEq,reduceCtorEq,↓reduceIte,Bool.true_eq_false,Bool.false_eq_true,Bool.not_true,Bool.not_false,true_and,and_true,and_assoc,qaj,sub1,qc8,qc7,qc9,List.length_replicate,Nat.le_refl,false_implies,true_implies,ne_eq,not_true_eq_false,not_false_eq_true,decide_true,decide_false,decide_eq_true_eq,decide_eq_false_iff_not,Bool.not_eq_true',Bool.not_eq_false']
    repeat (refine And.intro (by omega) ?_)
    simp only [out, outs, out1, pur, and_self]
end Am
