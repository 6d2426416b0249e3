/-
Working texts: contracts of functions, and the numbers behind them.
-/
import Derived.Test.YtkchoojcficjgaaFlA
set_option linter.unusedSimpArgs false
set_option linter.unusedVariables false
set_option linter.unusedSectionVars false
set_option linter.unusedSimpArgs false
set_option linter.unusedVariables false
set_option maxRecDepth 20000
namespace Am
open Go.Proofs
/-! ### FieldAsks -/
def preAsk (ds : List D) : Prop := ∃ (a b : List Int) (s : Bool), ds = [.v (.ints .u8 a), .v (.ints .u8 b), .v (.bool s)] ∧ Key a ∧ Key b
theorem xor128 {x : Int} (h : 0 ≤ x ∧ x < 256) : 0 ≤ bXor .u8 x 128 ∧ bXor .u8 x 128 < 256 ∧ bXor .u8 x 128 % 128 = x % 128 := by
  have hb : 0 ≤ bXor .u8 x 128 ∧ bXor .u8 x 128 < 256 := by unfold bXor; rw [wrap_u8]; omega
  refine ⟨hb.1, hb.2, ?_⟩
  have key : ∀ n : Nat, n < 256 → bXor .u8 (n : Int) 128 % 128 = (n : Int) % 128 := by decide +kernel
  obtain ⟨n, rfl⟩ := Int.eq_ofNat_of_zero_le h.1
  exact key n (by omega)
theorem kv_low {a : List Int} {v : Int} (h : Key a) (hv : 0 ≤ v ∧ v < 256) (hm : v % 128 = getI a 31 % 128) : Key (a.set 31 v) ∧ kv (a.set 31 v) = kv a := by
  have hk : Key (a.set 31 v) := ⟨by simp [h.1], h.2.set _ hv.1 hv.2⟩
  refine ⟨hk, ?_⟩
  have h1 := (key_low h).2
  have h2 := (key_low hk).2
  have e : (a.set 31 v).set 31 (getI (a.set 31 v) 31 % 128) = a.set 31 (getI a 31 % 128) := by
    rw [List.set_set, getI_set _ _ _ _ (by rw [h.1]; decide), if_pos rfl, hm]
  rw [e, h1] at h2
  unfold kv
  rw [h2]
theorem lawFieldAsks : ∀ ds, preAsk ds → Does Try.prog gl 4 (injV ds 4) (gl ++ injB true ds) (out (4 + (injB true ds).length) (FTrue ds)) := by
  refine fdoesA (l := [(23, s23), (24, s24), (25, s25), (30, s30), (33, s33), (34, s34), (35, s35)]) mixed gl_plain rfl Try.func4 comp4 compR4 nt4 (by simp only [List.mem_cons, List.not_mem_nil, or_false, forall_eq_or_imp, forall_eq]; exact ⟨ok23, ok24, ok25, ok30, ok33, ok34, ok35⟩) fun ds ⟨a, b, s, hd, ha, hb⟩ hA => ?_
  subst hd
  have hal := ha.1
  have hbl := hb.1
  have sa : sub a 0 32 = a := qda hal
  have sb : sub b 0 32 = b := qda hbl
  have hX := xo_el ha
  have hp := plc_lg ha
  obtain ⟨X, hXX⟩ : ∃ X, xo a = X := ⟨_, rfl⟩
  obtain ⟨p, hpp⟩ : ∃ p, plc a = p := ⟨_, rfl⟩
  have hXX' : dig 2251799813685248 5 (val 256 a) = X := hXX
  rw [hXX] at hX; rw [hpp] at hp
  have hXl := hX.len
  have sX : sub X 0 5 = X := qda hXl
  have spX : spl [0, 0, 0, 0, 0] 0 X = X := qc6 (by simp [hXl])
  have k1 := ha.p1
  have k2 := ha.p
  have q1 := hX.p1
  have g1 := hp.pk
  obtain ⟨k, hk⟩ : ∃ k, dig 256 32 (val 65536 p) = k := ⟨_, rfl⟩
  have b1 : bytesF X = k := by rw [hX.bytes, ← hk, hp.is]
  have hkl : k.length = 32 := by rw [← hk, qaj]
  have hkd : Dig 256 k := by rw [← hk]; exact dig_dig (by decide) _ _
  have sk : sub k 0 32 = k := qda hkl
  have spk : spl [0, 0, 0, 0, 0, 0, 0, 0, 0, 0, 0, 0, 0, 0, 0, 0, 0, 0, 0, 0, 0, 0, 0, 0, 0, 0, 0, 0, 0, 0, 0, 0] 0 k = k := qc6 (by simp [hkl])
  have hg := hkd.all (by decide) 0
  have w1 : bAnd .u8 (getI k 0) 1 = getI k 0 % 2 := bAnd_one8 hg.1 hg.2
  have r32 : List.replicate 32 (0 : Int) = [0, 0, 0, 0, 0, 0, 0, 0, 0, 0, 0, 0, 0, 0, 0, 0, 0, 0, 0, 0, 0, 0, 0, 0, 0, 0, 0, 0, 0, 0, 0, 0] := rfl
  have pA : pre23 [] := rfl
  have hsa := hal
  cases s with
  | true =>
    have hx := xor128 (ha.2.all (by decide) 31)
    have spa : spl b 0 a = a := qc6 (by omega)
    obtain ⟨hkc, hcv⟩ := kv_low ha ⟨hx.1, hx.2.1⟩ hx.2.2
    obtain ⟨c, hc⟩ : ∃ c, a.set 31 (bXor .u8 (getI a 31) 128) = c := ⟨_, rfl⟩
    rw [hc] at hkc hcv
    have hcl := hkc.1
    have sc : sub c 0 32 = c := qda hcl
    have hY := xo_el hkc
    have hq := plc_lg hkc
    rw [hcv] at hY hq
    obtain ⟨Y, hYY⟩ : ∃ Y, xo c = Y := ⟨_, rfl⟩
    obtain ⟨q, hqq⟩ : ∃ q, plc c = q := ⟨_, rfl⟩
    have hYY' : dig 2251799813685248 5 (val 256 c) = Y := hYY
    rw [hYY] at hY; rw [hqq] at hq
    have hYl := hY.len
    have sY : sub Y 0 5 = Y := qda hYl
    have spY : spl [0, 0, 0, 0, 0] 0 Y = Y := qc6 (by simp [hYl])
    have k3 := hkc.p1
    have k4 := hkc.p
    have q2 := hX.p2 hY
    have g2 := hq.pk
    have b2 : bytesF Y = k := by rw [hY.bytes, ← hk, hp.is]
    have b3 : dig 256 32 (val 65536 q) = k := by rw [← hk, hq.is, hp.is]
    simp only [s23, s24, s25, s30, s33, s34, s35]
    simp only [ir4,rs4,gl,FTrue,hal,hbl,sa,sb,spa,hc,hcl,sc,hXX',hpp,hYY',hqq,hXl,hYl,sX,sY,spX,spY,k1,k2,k3,k4,q1,q2,g1,g2,hk,b1,b2,b3,hkl,sk,spk,w1,pA,eq_self,BEq.rfl,s23,s24,s25,s30,s33,s34,s35,F23,F24,F25,F30,F33,F34,F35,qda,qc6,qaj,List.length_cons,List.length_nil,Nat.reduceAdd,Nat.le_refl,Nat.reduceLeDiff,Nat.reduceLT,true_and,and_true,↓qax,↓qay,↓qa0,↓qaz,↓qcs,↓qbj,↓qa1,↓qcl,↓qb3,↓qci,↓qcb,↓qce,↓qcf,↓qb4,↓qcd,↓qcj,↓qb5,↓qcg,↓qch,↓qb6,↓qcc,↓qca,↓qb9,↓qb8,↓qb7,↓qa5,↓qbc,↓qa6,↓qbd,↓qa7,↓qbe,↓qa8,↓qbf,↓qa9,↓qbg,↓qba,↓qbh,↓qbb,↓qbi,↓qb2,↓qck,↓qfc,↓qco,↓qcp,↓qcq,↓qcn,↓qcm,↓qbm,↓qbn,↓qb0,↓qbv,↓qbq,↓qbu,↓qbz,↓qbw,↓qby,↓qbx,↓qbr,↓qbp,↓qb1,↓qbs,↓qbt,↓qbo,↓qez,↓qey,↓qe3,↓qe5,↓qe4,↓qex,↓qew,↓qet,↓qeu,↓qe2,↓qe1,↓qe0,qc5,↓qeq,↓qer,↓qev,↓qc4,↓qc2,↓qc3,↓qe7,↓qe8,↓qe9,↓qe6,qaa,↓qes,↓qef,↓qeg,↓qfb,↓qfa,↓qei,↓qdk,↓qds,↓qd9,↓qea,↓qen,↓qeo,↓qdo,↓qdp,↓qdr,↓qdq,↓qdx,↓qep,↓qdv,↓qej,↓qdn,↓qed,↓qek,↓qel,↓qem,↓qd1,↓qd0,↓qd2,↓qd3,↓qd5,↓qdz,↓qd6,↓qd8,↓qd7,↓qdl,↓qdm,↓qdy,↓qaw,↓qdw,↓qee,↓qec,↓qdj,↓qeh,↓qeb,↓qd4,qav,List.drop_zero,Nat.sub_zero,qcy,qct,qcu,qdh,qat,qas,qaf,List.map_cons,List.map_nil,List.zip_cons_cons,List.zip_nil_right,List.zip_nil_left,qau,evs,evp,mkB,repB,blen,qae,qad,qac,qab,qc1,qc0,qdg,qdi,qde,qdf,qcx,qcz,qcv,qcw,↓qdc,↓qdb,↓qdd,↓qah,↓qag,↓qai,↓retQ,res,resAll,resOne,kill,apartOk,exp,injV,injB,pur,purs,purR,pursR,List.set_cons_zero,List.set_cons_succ,List.length_cons,List.length_nil,List.cons_append,List.nil_append,List.append_nil,List.append_assoc,List.length_append,List.reduceReplicate,Nat.reduceAdd,Nat.reduceMul,Nat.reduceSub,Nat.reduceEqDiff,Nat.reduceLT,Nat.zero_add,Nat.add_zero,Nat.mul_one,Int.reduceToNat,Int.toNat_natCast,Int.cast_ofNat_Int,Int.reduceLE,Int.reduceLT,Int.reduceEq,reduceCtorEq,↓reduceIte,Bool.true_eq_false,Bool.false_eq_true,Bool.not_true,Bool.not_false,true_and,and_true,and_assoc,qaj,sub1,qc8,qc7,qc9,List.length_replicate,Nat.le_refl,false_implies,true_implies,ne_eq,not_true_eq_false,not_false_eq_true,decide_true,decide_false,decide_eq_true_eq,decide_eq_false_iff_not,Bool.not_eq_true',Bool.not_eq_false']
    repeat (refine And.intro (by omega) ?_)
    simp only [out, outs, out1, pur, and_self]
  | false =>
    have hY := xo_el hb
    have hq := plc_lg hb
    obtain ⟨Y, hYY⟩ : ∃ Y, xo b = Y := ⟨_, rfl⟩
    obtain ⟨q, hqq⟩ : ∃ q, plc b = q := ⟨_, rfl⟩
    have hYY' : dig 2251799813685248 5 (val 256 b) = Y := hYY
    rw [hYY] at hY; rw [hqq] at hq
    have hYl := hY.len
    have sY : sub Y 0 5 = Y := qda hYl
    have spY : spl [0, 0, 0, 0, 0] 0 Y = Y := qc6 (by simp [hYl])
    have k3 := hb.p1
    have k4 := hb.p
    have q2 := hX.p2 hY
    have g2 := hq.pk
    obtain ⟨j, hj⟩ : ∃ j, dig 256 32 (val 65536 q) = j := ⟨_, rfl⟩
    have b2 : bytesF Y = j := by rw [hY.bytes, ← hj, hq.is]
    have hjl : j.length = 32 := by rw [← hj, qaj]
    simp only [s23, s24, s25, s30, s33, s34, s35]
    simp only [ir4,rs4,gl,FTrue,hal,hbl,sa,sb,hXX',hpp,hYY',hqq,hXl,hYl,sX,sY,spX,spY,k1,k2,k3,k4,q1,q2,g1,g2,hk,hj,hjl,b1,b2,hkl,sk,spk,w1,pA,eq_self,BEq.rfl,s23,s24,s25,s30,s33,s34,s35,F23,F24,F25,F30,F33,F34,F35,qda,qc6,qaj,List.length_cons,List.length_nil,Nat.reduceAdd,Nat.le_refl,Nat.reduceLeDiff,Nat.reduceLT,true_and,and_true,↓qax,↓qay,↓qa0,↓qaz,↓qcs,↓qbj,↓qa1,↓qcl,↓qb3,↓qci,↓qcb,↓qce,↓qcf,↓qb4,↓qcd,↓qcj,↓qb5,↓qcg,↓qch,↓qb6,↓qcc,↓qca,↓qb9,↓qb8,↓qb7,↓qa5,↓qbc,↓qa6,↓qbd,↓qa7,↓qbe,↓qa8,↓qbf,↓qa9,↓qbg,↓qba,↓qbh,↓qbb,↓qbi,↓qb2,↓qck,↓qfc,↓qco,↓qcp,↓qcq,↓qcn,↓qcm,↓qbm,↓qbn,↓qb0,↓qbv,↓qbq,↓qbu,↓qbz,↓qbw,↓qby,↓qbx,↓qbr,↓qbp,↓qb1,↓qbs,↓qbt,↓qbo,↓qez,↓qey,↓qe3,↓qe5,↓qe4,↓qex,↓qew,↓qet,↓qeu,↓qe2,↓qe1,↓qe0,qc5,↓qeq,↓qer,↓qev,↓qc4,↓qc2,↓qc3,↓qe7,↓qe8,↓qe9,↓qe6,qaa,↓qes,↓qef,↓qeg,↓qfb,↓qfa,↓qei,↓qdk,↓qds,↓qd9,↓qea,↓qen,↓qeo,↓qdo,↓qdp,↓qdr,↓qdq,↓qdx,↓qep,↓qdv,↓qej,↓qdn,↓qed,↓qek,↓qel,↓qem,↓qd1,↓qd0,↓qd2,↓qd3,↓qd5,↓qdz,↓qd6,↓qd8,↓qd7,↓qdl,↓qdm,↓qdy,↓qaw,↓qdw,↓qee,↓qec,↓qdj,↓qeh,↓qeb,↓qd4,qav,List.drop_zero,Nat.sub_zero,qcy,qct,qcu,qdh,qat,qas,qaf,List.map_cons,List.map_nil,List.zip_cons_cons,List.zip_nil_right,List.zip_nil_left,qau,evs,evp,mkB,repB,blen,qae,qad,qac,qab,qc1,qc0,qdg,qdi,qde,qdf,qcx,qcz,qcv,qcw,↓qdc,↓qdb,↓qdd,↓qah,↓qag,↓qai,↓retQ,res,resAll,resOne,kill,apartOk,exp,injV,injB,pur,purs,purR,pursR,List.set_cons_zero,List.set_cons_succ,List.length_cons,List.length_nil,List.cons_append,List.nil_append,List.append_nil,List.append_assoc,List.length_append,List.reduceReplicate,Nat.reduceAdd,Nat.reduceMul,Nat.reduceSub,Nat.reduceEqDiff,Nat.reduceLT,Nat.zero_add,Nat.add_zero,Nat.mul_one,Int.reduceToNat,Int.toNat_natCast,Int.cast_ofNat_Int,Int.reduceLE,Int.reduceLT,Int.reduceEq,reduceCtorEq,↓reduceIte,Bool.true_eq_false,Bool.false_eq_true,Bool.not_true,Bool.not_false,true_and,and_true,and_assoc,qaj,sub1,qc8,qc7,qc9,List.length_replicate,Nat.le_refl,false_implies,true_implies,ne_eq,not_true_eq_false,not_false_eq_true,decide_true,decide_false,decide_eq_true_eq,decide_eq_false_iff_not,Bool.not_eq_true',Bool.not_eq_false']
    repeat (refine And.intro (by omega) ?_)
    simp only [out, outs, out1, pur, and_self]
end Am
set_option linter.unusedSimpArgs false
set_option linter.unusedVariables false
set_option maxRecDepth 20000
namespace Am
open Go.Proofs
/-! ### Powers as powers -/
theorem pow_mod_mul {x a b : Int} {i j : Nat} (ha : a = x ^ i % Pp) (hb : b = x ^ j % Pp) : a * b % Pp = x ^ (i + j) % Pp := by
  rw [ha, hb, ← Int.mul_emod, ← Int.pow_add]
theorem pwv_pow {x : Int} {V : Nat} : ∀ (n : Nat), pwv (x % Pp) (V : Int) n (x ^ (V / 2 ^ n) % Pp) = x ^ V % Pp
  | 0 => by rw [pwv]; simp
  | n + 1 => by
    have e : V / 2 ^ n = V / 2 ^ (n + 1) * 2 + V / 2 ^ n % 2 := by
      have : V / 2 ^ (n + 1) = V / 2 ^ n / 2 := by rw [Nat.pow_succ, Nat.div_div_eq_div_mul]
      rw [this]; omega
    have hb : ((V : Int) / 2 ^ n % 2 = 1) ↔ V / 2 ^ n % 2 = 1 := by
      have : (V : Int) / 2 ^ n % 2 = ((V / 2 ^ n % 2 : Nat) : Int) := by
        rw [Int.natCast_emod, Int.natCast_ediv, Int.natCast_pow]; rfl
      rw [this]; omega
    rw [pwv]
    have hs := pow_mod_mul (x := x) (i := V / 2 ^ (n + 1)) (j := V / 2 ^ (n + 1)) rfl rfl
    rw [hs]
    by_cases h : V / 2 ^ n % 2 = 1
    · rw [if_pos (hb.2 h)]
      have h1 : x % Pp = x ^ 1 % Pp := by rw [Int.pow_one]
      conv => lhs; arg 4; rw [h1]
      rw [← Int.mul_emod, ← Int.pow_add]
      have e2 : V / 2 ^ (n + 1) + V / 2 ^ (n + 1) + 1 = V / 2 ^ n := by omega
      rw [e2]
      exact pwv_pow n
    · rw [if_neg (fun q => h (hb.1 q))]
      have e2 : V / 2 ^ (n + 1) + V / 2 ^ (n + 1) = V / 2 ^ n := by omega
      rw [e2]
      exact pwv_pow n
theorem pw_pow {x : Int} {V : Nat} (h0 : 0 ≤ x) (h1 : x < Pp) (hV : V < 2 ^ 256) : pw x (V : Int) = x ^ V % Pp := by
  have := pwv_pow (x := x) (V := V) 256
  rw [Nat.div_eq_of_lt hV, Int.pow_zero, Int.emod_eq_of_lt h0 h1] at this
  exact this
/-! ### FieldOften -/
def preOften (ds : List D) : Prop := ∃ (a : List Int) (n m : Int), ds = [.v (.ints .u8 a), .v (.int .u8 n), .v (.int .u8 m)] ∧ Key a ∧ (0 ≤ n ∧ n < 256) ∧ (0 ≤ m ∧ m < 256)
theorem lawFieldOften : ∀ ds, preOften ds → Does Try.prog gl 6 (injV ds 4) (gl ++ injB true ds) (out (4 + (injB true ds).length) (FTrue ds)) := by
  refine fdoesA (l := [(23, s23), (24, s24), (38, s38), (36, s36), (39, s39), (34, s34), (26, s26)]) mixed gl_plain rfl Try.func6 comp6 compR6 nt6 (by simp only [List.mem_cons, List.not_mem_nil, or_false, forall_eq_or_imp, forall_eq]; exact ⟨ok23, ok24, ok38, ok36, ok39, ok34, ok26⟩) fun ds ⟨a, n, m, hd, ha, hn, hm⟩ hA => ?_
  subst hd
  have hal := ha.1
  have sa : sub a 0 32 = a := qda hal
  have hX := xo_el ha
  obtain ⟨X, hXX⟩ : ∃ X, xo a = X := ⟨_, rfl⟩
  have hXX' : dig 2251799813685248 5 (val 256 a) = X := hXX
  rw [hXX] at hX
  obtain ⟨x, hx⟩ : ∃ x, kv a = x := ⟨_, rfl⟩
  rw [hx] at hX
  have hXl := hX.len
  have sX : sub X 0 5 = X := qda hXl
  have spX : spl [0, 0, 0, 0, 0] 0 X = X := qc6 (by simp [hXl])
  have k1 := ha.p1
  have pA : pre23 [] := rfl
  obtain ⟨q, hq, q0, q1⟩ : ∃ q : Nat, n.tmod 40 = (q : Int) ∧ 0 ≤ q ∧ q < 40 := by
    refine ⟨(n % 40).toNat, ?_, by omega, by omega⟩
    rw [Int.tmod_eq_emod_of_nonneg hn.1]; omega
  obtain ⟨n, rfl⟩ := Int.eq_ofNat_of_zero_le hn.1
  obtain ⟨m, rfl⟩ := Int.eq_ofNat_of_zero_le hm.1
  simp only [s23, s24, s38, s36, s39, s34, s26]
  simp only [ir6,rs6,gl,FTrue,hal,sa,hXX',hXl,sX,spX,k1,pA,hq,s23,s24,F23,F24,qda,qc6,qaj,List.length_cons,List.length_nil,Nat.reduceAdd,Nat.le_refl,Nat.reduceLeDiff,Nat.reduceLT,true_and,and_true,↓qax,↓qay,↓qa0,↓qaz,↓qcs,↓qbj,↓qa1,↓qcl,↓qb3,↓qci,↓qcb,↓qce,↓qcf,↓qb4,↓qcd,↓qcj,↓qb5,↓qcg,↓qch,↓qb6,↓qcc,↓qca,↓qb9,↓qb8,↓qb7,↓qa5,↓qbc,↓qa6,↓qbd,↓qa7,↓qbe,↓qa8,↓qbf,↓qa9,↓qbg,↓qba,↓qbh,↓qbb,↓qbi,↓qb2,↓qck,↓qfc,↓qco,↓qcp,↓qcq,↓qcn,↓qcm,↓qbm,↓qbn,↓qb0,↓qbv,↓qbq,↓qbu,↓qbz,↓qbw,↓qby,↓qbx,↓qbr,↓qbp,↓qb1,↓qbs,↓qbt,↓qbo,↓qez,↓qey,↓qe3,↓qe5,↓qe4,↓qex,↓qew,↓qet,↓qeu,↓qe2,↓qe1,↓qe0,qc5,↓qeq,↓qer,↓qev,↓qc4,↓qc2,↓qc3,↓qe7,↓qe8,↓qe9,↓qe6,qaa,↓qes,↓qef,↓qeg,↓qfb,↓qfa,↓qei,↓qdk,↓qds,↓qd9,↓qea,↓qen,↓qeo,↓qdo,↓qdp,↓qdr,↓qdq,↓qdx,↓qep,↓qdv,↓qej,↓qdn,↓qed,↓qek,↓qel,↓qem,↓qd1,↓qd0,↓qd2,↓qd3,↓qd5,↓qdz,↓qd6,↓qd8,↓qd7,↓qdl,↓qdm,↓qdy,↓qaw,↓qdw,↓qee,↓qec,↓qdj,↓qeh,↓qeb,↓qd4,qav,List.drop_zero,Nat.sub_zero,qcy,qct,qcu,qdh,qat,qas,qaf,List.map_cons,List.map_nil,List.zip_cons_cons,List.zip_nil_right,List.zip_nil_left,qau,evs,evp,mkB,repB,blen,qae,qad,qac,qab,qc1,qc0,qdg,qdi,qde,qdf,qcx,qcz,qcv,qcw,↓qdc,↓qdb,↓qdd,↓qah,↓qag,↓qai,↓retQ,res,resAll,resOne,kill,apartOk,exp,injV,injB,pur,purs,purR,pursR,List.set_cons_zero,List.set_cons_succ,List.length_cons,List.length_nil,List.cons_append,List.nil_append,List.append_nil,List.append_assoc,List.length_append,List.reduceReplicate,Nat.reduceAdd,Nat.reduceMul,Nat.reduceSub,Nat.reduceEqDiff,Nat.reduceLT,Nat.zero_add,Nat.add_zero,Nat.mul_one,Int.reduceToNat,Int.toNat_natCast,Int.cast_ofNat_Int,Int.reduceLE,Int.reduceLT,Int.reduceEq,reduceCtorEq,↓reduceIte,Bool.true_eq_false,Bool.false_eq_true,Bool.not_true,Bool.not_false,true_and,and_true,and_assoc,qaj,sub1,qc8,qc7,qc9,List.length_replicate,Nat.le_refl,false_implies,true_implies,ne_eq,not_true_eq_false,not_false_eq_true,decide_true,decide_false,decide_eq_true_eq,decide_eq_false_iff_not,Bool.not_eq_true',Bool.not_eq_false']
  refine awp_loopA (n := 55) hA [1, 2, 7, 8, 15, 16] (by decide +kernel) (fun s : Nat × List Int => [.int .u8 n, .int .u8 m, .ptr 5 0, .ptr 6 0, .int .u8 q, .int .u8 s.1])
    (fun s => [.dead, .dead, .dead, .dead, .ints false .u8 a, .ints false .u64 X, .ints false .u64 s.2]) (fun s => s.1 ≤ q ∧ El s.2 ((s.1 : Int) * x % Pp)) (fun s => q - s.1) (0, [0, 0, 0, 0, 0]) ?_ ⟨by simp, ?_⟩ ?_
  · refine Hd.same ?_
    simp only [↓qax,↓qay,↓qa0,↓qaz,↓qcs,↓qbj,↓qa1,↓qcl,↓qb3,↓qci,↓qcb,↓qce,↓qcf,↓qb4,↓qcd,↓qcj,↓qb5,↓qcg,↓qch,↓qb6,↓qcc,↓qca,↓qb9,↓qb8,↓qb7,↓qa5,↓qbc,↓qa6,↓qbd,↓qa7,↓qbe,↓qa8,↓qbf,↓qa9,↓qbg,↓qba,↓qbh,↓qbb,↓qbi,↓qb2,↓qck,↓qfc,↓qco,↓qcp,↓qcq,↓qcn,↓qcm,↓qbm,↓qbn,↓qb0,↓qbv,↓qbq,↓qbu,↓qbz,↓qbw,↓qby,↓qbx,↓qbr,↓qbp,↓qb1,↓qbs,↓qbt,↓qbo,↓qez,↓qey,↓qe3,↓qe5,↓qe4,↓qex,↓qew,↓qet,↓qeu,↓qe2,↓qe1,↓qe0,qc5,↓qeq,↓qer,↓qev,↓qc4,↓qc2,↓qc3,↓qe7,↓qe8,↓qe9,↓qe6,qaa,↓qes,↓qef,↓qeg,↓qfb,↓qfa,↓qei,↓qdk,↓qds,↓qd9,↓qea,↓qen,↓qeo,↓qdo,↓qdp,↓qdr,↓qdq,↓qdx,↓qep,↓qdv,↓qej,↓qdn,↓qed,↓qek,↓qel,↓qem,↓qd1,↓qd0,↓qd2,↓qd3,↓qd5,↓qdz,↓qd6,↓qd8,↓qd7,↓qdl,↓qdm,↓qdy,↓qaw,↓qdw,↓qee,↓qec,↓qdj,↓qeh,↓qeb,↓qd4,qav,List.drop_zero,Nat.sub_zero,qcy,qct,qcu,qdh,qat,qas,qaf,List.map_cons,List.map_nil,List.zip_cons_cons,List.zip_nil_right,List.zip_nil_left,qau,evs,evp,mkB,repB,blen,qae,qad,qac,qab,qc1,qc0,qdg,qdi,qde,qdf,qcx,qcz,qcv,qcw,↓qdc,↓qdb,↓qdd,↓qah,↓qag,↓qai,↓retQ,res,resAll,resOne,kill,apartOk,exp,injV,injB,pur,purs,purR,pursR,List.set_cons_zero,List.set_cons_succ,List.length_cons,List.length_nil,List.cons_append,List.nil_append,List.append_nil,List.append_assoc,List.length_append,List.reduceReplicate,Nat.reduceAdd,Nat.reduceMul,Nat.reduceSub,Nat.reduceEqDiff,Nat.reduceLT,Nat.zero_add,Nat.add_zero,Nat.mul_one,Int.reduceToNat,Int.toNat_natCast,Int.cast_ofNat_Int,Int.reduceLE,Int.reduceLT,Int.reduceEq,reduceCtorEq,↓reduceIte,Bool.true_eq_false,Bool.false_eq_true,Bool.not_true,Bool.not_false,true_and,and_true,and_assoc,qaj,sub1,qc8,qc7,qc9,List.length_replicate,Nat.le_refl,false_implies,true_implies,ne_eq,not_true_eq_false,not_false_eq_true,decide_true,decide_false,decide_eq_true_eq,decide_eq_false_iff_not,Bool.not_eq_true',Bool.not_eq_false']
  · simp only
    rw [show ((0 : Nat) : Int) * x % Pp = 0 by simp]
    exact small_el (by decide) (by decide)
  rintro ⟨k, S⟩ ⟨hk, hS⟩ K hK
  simp only at hk hS hK
  have hSl := hS.len
  have sS : sub S 0 5 = S := qda hSl
  by_cases hlt : k < q
  · have c1 : (k : Int) < (q : Int) := by omega
    have wk : Go.IntKind.u8.wrap ((k : Int) + 1) = ((k + 1 : Nat) : Int) := by rw [wrap_u8]; omega
    have p1 := hS.p2 hX
    have e1 := add_el hS hX
    have hv : ((k : Int) * x % Pp + x) % Pp = ((k + 1 : Nat) : Int) * x % Pp := by
      rw [Int.emod_add_emod]
      congr 1
      rw [Int.natCast_add, Int.add_mul]
      simp
    rw [hv] at e1
    have hl2 := e1.len
    have sp2 : spl S 0 (addF S X) = addF S X := qc6 (by omega)
    simp only [s38]
    simp only [c1,wk,hSl,hXl,sS,sX,p1,sp2,hl2,s38,F38,qda,qc6,qaj,List.length_cons,List.length_nil,Nat.reduceAdd,Nat.le_refl,Nat.reduceLeDiff,Nat.reduceLT,true_and,and_true,↓qax,↓qay,↓qa0,↓qaz,↓qcs,↓qbj,↓qa1,↓qcl,↓qb3,↓qci,↓qcb,↓qce,↓qcf,↓qb4,↓qcd,↓qcj,↓qb5,↓qcg,↓qch,↓qb6,↓qcc,↓qca,↓qb9,↓qb8,↓qb7,↓qa5,↓qbc,↓qa6,↓qbd,↓qa7,↓qbe,↓qa8,↓qbf,↓qa9,↓qbg,↓qba,↓qbh,↓qbb,↓qbi,↓qb2,↓qck,↓qfc,↓qco,↓qcp,↓qcq,↓qcn,↓qcm,↓qbm,↓qbn,↓qb0,↓qbv,↓qbq,↓qbu,↓qbz,↓qbw,↓qby,↓qbx,↓qbr,↓qbp,↓qb1,↓qbs,↓qbt,↓qbo,↓qez,↓qey,↓qe3,↓qe5,↓qe4,↓qex,↓qew,↓qet,↓qeu,↓qe2,↓qe1,↓qe0,qc5,↓qeq,↓qer,↓qev,↓qc4,↓qc2,↓qc3,↓qe7,↓qe8,↓qe9,↓qe6,qaa,↓qes,↓qef,↓qeg,↓qfb,↓qfa,↓qei,↓qdk,↓qds,↓qd9,↓qea,↓qen,↓qeo,↓qdo,↓qdp,↓qdr,↓qdq,↓qdx,↓qep,↓qdv,↓qej,↓qdn,↓qed,↓qek,↓qel,↓qem,↓qd1,↓qd0,↓qd2,↓qd3,↓qd5,↓qdz,↓qd6,↓qd8,↓qd7,↓qdl,↓qdm,↓qdy,↓qaw,↓qdw,↓qee,↓qec,↓qdj,↓qeh,↓qeb,↓qd4,qav,List.drop_zero,Nat.sub_zero,qcy,qct,qcu,qdh,qat,qas,qaf,List.map_cons,List.map_nil,List.zip_cons_cons,List.zip_nil_right,List.zip_nil_left,qau,evs,evp,mkB,repB,blen,qae,qad,qac,qab,qc1,qc0,qdg,qdi,qde,qdf,qcx,qcz,qcv,qcw,↓qdc,↓qdb,↓qdd,↓qah,↓qag,↓qai,↓retQ,res,resAll,resOne,kill,apartOk,exp,injV,injB,pur,purs,purR,pursR,List.set_cons_zero,List.set_cons_succ,List.length_cons,List.length_nil,List.cons_append,List.nil_append,List.append_nil,List.append_assoc,List.length_append,List.reduceReplicate,Nat.reduceAdd,Nat.reduceMul,Nat.reduceSub,Nat.reduceEqDiff,Nat.reduceLT,Nat.zero_add,Nat.add_zero,Nat.mul_one,Int.reduceToNat,Int.toNat_natCast,Int.cast_ofNat_Int,Int.reduceLE,Int.reduceLT,Int.reduceEq,reduceCtorEq,↓reduceIte,Bool.true_eq_false,Bool.false_eq_true,Bool.not_true,Bool.not_false,true_and,and_true,and_assoc,qaj,sub1,qc8,qc7,qc9,List.length_replicate,Nat.le_refl,false_implies,true_implies,ne_eq,not_true_eq_false,not_false_eq_true,decide_true,decide_false,decide_eq_true_eq,decide_eq_false_iff_not,Bool.not_eq_true',Bool.not_eq_false']
    repeat (refine And.intro (by omega) ?_)
    refine ⟨(k + 1, addF S X), hK _ ⟨by simp only; omega, e1⟩ (by simp only; omega), Hd.same ?_⟩
    simp only [↓qax,↓qay,↓qa0,↓qaz,↓qcs,↓qbj,↓qa1,↓qcl,↓qb3,↓qci,↓qcb,↓qce,↓qcf,↓qb4,↓qcd,↓qcj,↓qb5,↓qcg,↓qch,↓qb6,↓qcc,↓qca,↓qb9,↓qb8,↓qb7,↓qa5,↓qbc,↓qa6,↓qbd,↓qa7,↓qbe,↓qa8,↓qbf,↓qa9,↓qbg,↓qba,↓qbh,↓qbb,↓qbi,↓qb2,↓qck,↓qfc,↓qco,↓qcp,↓qcq,↓qcn,↓qcm,↓qbm,↓qbn,↓qb0,↓qbv,↓qbq,↓qbu,↓qbz,↓qbw,↓qby,↓qbx,↓qbr,↓qbp,↓qb1,↓qbs,↓qbt,↓qbo,↓qez,↓qey,↓qe3,↓qe5,↓qe4,↓qex,↓qew,↓qet,↓qeu,↓qe2,↓qe1,↓qe0,qc5,↓qeq,↓qer,↓qev,↓qc4,↓qc2,↓qc3,↓qe7,↓qe8,↓qe9,↓qe6,qaa,↓qes,↓qef,↓qeg,↓qfb,↓qfa,↓qei,↓qdk,↓qds,↓qd9,↓qea,↓qen,↓qeo,↓qdo,↓qdp,↓qdr,↓qdq,↓qdx,↓qep,↓qdv,↓qej,↓qdn,↓qed,↓qek,↓qel,↓qem,↓qd1,↓qd0,↓qd2,↓qd3,↓qd5,↓qdz,↓qd6,↓qd8,↓qd7,↓qdl,↓qdm,↓qdy,↓qaw,↓qdw,↓qee,↓qec,↓qdj,↓qeh,↓qeb,↓qd4,qav,List.drop_zero,Nat.sub_zero,qcy,qct,qcu,qdh,qat,qas,qaf,List.map_cons,List.map_nil,List.zip_cons_cons,List.zip_nil_right,List.zip_nil_left,qau,evs,evp,mkB,repB,blen,qae,qad,qac,qab,qc1,qc0,qdg,qdi,qde,qdf,qcx,qcz,qcv,qcw,↓qdc,↓qdb,↓qdd,↓qah,↓qag,↓qai,↓retQ,res,resAll,resOne,kill,apartOk,exp,injV,injB,pur,purs,purR,pursR,List.set_cons_zero,List.set_cons_succ,List.length_cons,List.length_nil,List.cons_append,List.nil_append,List.append_nil,List.append_assoc,List.length_append,List.reduceReplicate,Nat.reduceAdd,Nat.reduceMul,Nat.reduceSub,Nat.reduceEqDiff,Nat.reduceLT,Nat.zero_add,Nat.add_zero,Nat.mul_one,Int.reduceToNat,Int.toNat_natCast,Int.cast_ofNat_Int,Int.reduceLE,Int.reduceLT,Int.reduceEq,reduceCtorEq,↓reduceIte,Bool.true_eq_false,Bool.false_eq_true,Bool.not_true,Bool.not_false,true_and,and_true,and_assoc,qaj,sub1,qc8,qc7,qc9,List.length_replicate,Nat.le_refl,false_implies,true_implies,ne_eq,not_true_eq_false,not_false_eq_true,decide_true,decide_false,decide_eq_true_eq,decide_eq_false_iff_not,Bool.not_eq_true',Bool.not_eq_false']
  obtain rfl : k = q := by omega
  have c1 : ¬(k : Int) < (k : Int) := by omega
  have w1 : Go.IntKind.u16.wrap (n : Int) = (n : Int) := by rw [wrap_u16]; omega
  have w2 : Go.IntKind.u16.wrap (m : Int) = (m : Int) := by rw [wrap_u16]; omega
  have w3 : Go.IntKind.u16.wrap ((n : Int) + (m : Int)) = ((n + m : Nat) : Int) := by rw [wrap_u16]; omega
  have w4 : Go.IntKind.u32.wrap (k : Int) = (k : Int) := by rw [wrap_u32]; omega
  have w5 : Go.IntKind.u8.wrap ((n + m : Nat) : Int) = (((n + m) % 256 : Nat) : Int) := by rw [wrap_u8]; omega
  have w6 : iShr .u16 ((n + m : Nat) : Int) 8 = (((n + m) / 256 : Nat) : Int) := by
    rw [iShr_eq, show min (8 : Int).toNat Go.IntKind.u16.bits = 8 from rfl]; omega
  have w7 : Go.IntKind.u8.wrap (((n + m) / 256 : Nat) : Int) = (((n + m) / 256 : Nat) : Int) := by rw [wrap_u8]; omega
  have u1 : preU32 [.v (.int .u32 (k : Int))] := ⟨_, rfl, by omega, by omega⟩
  have hk1 := small_el (n := (k : Int)) (by omega) (by omega)
  have p1 := hk1.p2 hX
  have hM := mul_el hk1 hX
  obtain ⟨M, hMM⟩ : ∃ M, mulF [(k : Int), 0, 0, 0, 0] X = M := ⟨_, rfl⟩
  rw [hMM] at hM
  have p2 := hS.p2 hM
  have b1 : bytesF S = bytesF M := by rw [hS.bytes, hM.bytes]
  have zk : ∀ u v : Int, 0 ≤ u → u < 256 → 0 ≤ v → v < 256 → Key [u, v, 0, 0, 0, 0, 0, 0, 0, 0, 0, 0, 0, 0, 0, 0, 0, 0, 0, 0, 0, 0, 0, 0, 0, 0, 0, 0, 0, 0, 0, 0] := fun u v h1 h2 h3 h4 => ⟨rfl, fun y hy => by
    simp only [List.mem_cons, List.not_mem_nil, or_false] at hy
    rcases hy with rfl | rfl | h
    · exact ⟨h1, h2⟩
    · exact ⟨h3, h4⟩
    · have : y = 0 := by simpa using h
      rw [this]; decide⟩
  have zv : ∀ u v : Int, val 256 [u, v, 0, 0, 0, 0, 0, 0, 0, 0, 0, 0, 0, 0, 0, 0, 0, 0, 0, 0, 0, 0, 0, 0, 0, 0, 0, 0, 0, 0, 0, 0] = u + 256 * v := fun u v => by simp only [val]; omega
  have kn := zk n 0 (by omega) (by omega) (by decide) (by decide)
  have km := zk m 0 (by omega) (by omega) (by decide) (by decide)
  have kb := zk (((n + m) % 256 : Nat) : Int) (((n + m) / 256 : Nat) : Int) (by omega) (by omega) (by omega) (by omega)
  have vn : val 256 [(n : Int), 0, 0, 0, 0, 0, 0, 0, 0, 0, 0, 0, 0, 0, 0, 0, 0, 0, 0, 0, 0, 0, 0, 0, 0, 0, 0, 0, 0, 0, 0, 0] = (n : Int) := by rw [zv]; omega
  have vm : val 256 [(m : Int), 0, 0, 0, 0, 0, 0, 0, 0, 0, 0, 0, 0, 0, 0, 0, 0, 0, 0, 0, 0, 0, 0, 0, 0, 0, 0, 0, 0, 0, 0, 0] = (m : Int) := by rw [zv]; omega
  have vb : val 256 [(((n + m) % 256 : Nat) : Int), (((n + m) / 256 : Nat) : Int), 0, 0, 0, 0, 0, 0, 0, 0, 0, 0, 0, 0, 0, 0, 0, 0, 0, 0, 0, 0, 0, 0, 0, 0, 0, 0, 0, 0, 0, 0] = ((n + m : Nat) : Int) := by rw [zv]; omega
  have pn := hX.pk kn
  have pm := hX.pk km
  have pb := hX.pk kb
  have en := pow_el (n : Int) hX
  have em := pow_el (m : Int) hX
  have eb := pow_el ((n + m : Nat) : Int) hX
  have hxb := hX.bd
  rw [pw_pow hxb.1 hxb.2 (by omega)] at en em eb
  have p3 := en.p2 em
  have hP := mul_el en em
  rw [← Int.mul_emod, ← Int.pow_add] at hP
  obtain ⟨Pn, hPn⟩ : ∃ Pn, powF X (n : Int) = Pn := ⟨_, rfl⟩
  obtain ⟨Pm', hPm⟩ : ∃ Pm', powF X (m : Int) = Pm' := ⟨_, rfl⟩
  obtain ⟨Pb, hPb⟩ : ∃ Pb, powF X ((n + m : Nat) : Int) = Pb := ⟨_, rfl⟩
  rw [hPn, hPm] at p3 hP
  rw [hPb] at eb
  obtain ⟨W, hW⟩ : ∃ W, mulF Pn Pm' = W := ⟨_, rfl⟩
  rw [hW] at hP
  have p4 := hP.p2 eb
  have b2 : bytesF W = bytesF Pb := by rw [hP.bytes, eb.bytes]
  have hq' : (n : Int).tmod 40 = (k : Int) := hq
  simp only [s38, s36, s39, s34, s26]
  simp only [c1,w1,w2,w3,w4,w5,w6,w7,hq',u1,p1,hMM,p2,b1,hXl,hSl,sS,sX,pn,pm,pb,vn,vm,vb,hPn,hPm,hPb,p3,hW,p4,b2,eq_self,s36,s39,s34,s26,F36,F39,F34,F26,qda,qc6,qaj,List.length_cons,List.length_nil,Nat.reduceAdd,Nat.le_refl,Nat.reduceLeDiff,Nat.reduceLT,true_and,and_true,↓qax,↓qay,↓qa0,↓qaz,↓qcs,↓qbj,↓qa1,↓qcl,↓qb3,↓qci,↓qcb,↓qce,↓qcf,↓qb4,↓qcd,↓qcj,↓qb5,↓qcg,↓qch,↓qb6,↓qcc,↓qca,↓qb9,↓qb8,↓qb7,↓qa5,↓qbc,↓qa6,↓qbd,↓qa7,↓qbe,↓qa8,↓qbf,↓qa9,↓qbg,↓qba,↓qbh,↓qbb,↓qbi,↓qb2,↓qck,↓qfc,↓qco,↓qcp,↓qcq,↓qcn,↓qcm,↓qbm,↓qbn,↓qb0,↓qbv,↓qbq,↓qbu,↓qbz,↓qbw,↓qby,↓qbx,↓qbr,↓qbp,↓qb1,↓qbs,↓qbt,↓qbo,↓qez,↓qey,↓qe3,↓qe5,↓qe4,↓qex,↓qew,↓qet,↓qeu,↓qe2,↓qe1,↓qe0,qc5,↓qeq,↓qer,↓qev,↓qc4,↓qc2,↓qc3,↓qe7,↓qe8,↓qe9,↓qe6,qaa,↓qes,↓qef,↓qeg,↓qfb,↓qfa,↓qei,↓qdk,↓qds,↓qd9,↓qea,↓qen,↓qeo,↓qdo,↓qdp,↓qdr,↓qdq,↓qdx,↓qep,↓qdv,↓qej,↓qdn,↓qed,↓qek,↓qel,↓qem,↓qd1,↓qd0,↓qd2,↓qd3,↓qd5,↓qdz,↓qd6,↓qd8,↓qd7,↓qdl,↓qdm,↓qdy,↓qaw,↓qdw,↓qee,↓qec,↓qdj,↓qeh,↓qeb,↓qd4,qav,List.drop_zero,Nat.sub_zero,qcy,qct,qcu,qdh,qat,qas,qaf,List.map_cons,List.map_nil,List.zip_cons_cons,List.zip_nil_right,List.zip_nil_left,qau,evs,evp,mkB,repB,blen,qae,qad,qac,qab,qc1,qc0,qdg,qdi,qde,qdf,qcx,qcz,qcv,qcw,↓qdc,↓qdb,↓qdd,↓qah,↓qag,↓qai,↓retQ,res,resAll,resOne,kill,apartOk,exp,injV,injB,pur,purs,purR,pursR,List.set_cons_zero,List.set_cons_succ,List.length_cons,List.length_nil,List.cons_append,List.nil_append,List.append_nil,List.append_assoc,List.length_append,List.reduceReplicate,Nat.reduceAdd,Nat.reduceMul,Nat.reduceSub,Nat.reduceEqDiff,Nat.reduceLT,Nat.zero_add,Nat.add_zero,Nat.mul_one,Int.reduceToNat,Int.toNat_natCast,Int.cast_ofNat_Int,Int.reduceLE,Int.reduceLT,Int.reduceEq,reduceCtorEq,↓reduceIte,Bool.true_eq_false,Bool.false_eq_true,Bool.not_true,Bool.not_false,true_and,and_true,and_assoc,qaj,sub1,qc8,qc7,qc9,List.length_replicate,Nat.le_refl,false_implies,true_implies,ne_eq,not_true_eq_false,not_false_eq_true,decide_true,decide_false,decide_eq_true_eq,decide_eq_false_iff_not,Bool.not_eq_true',Bool.not_eq_false']
  repeat (refine And.intro (by omega) ?_)
  simp only [out, outs, out1, pur, and_self]
end Am
