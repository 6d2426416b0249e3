/-
Working texts: contracts of functions, and the numbers behind them.
-/
import Derived.Test.YtkchoojcficjgaaFlA
import Derived.Test.YtkchoojcficjgaaAmShape
set_option linter.unusedSimpArgs false
set_option linter.unusedVariables false
set_option linter.unusedSectionVars false
set_option linter.unusedSimpArgs false
set_option linter.unusedVariables false
set_option maxRecDepth 20000
namespace Am
open Go.Proofs
/-! ### FieldAsks -/
def preAsk (ds : List D) : Prop := ∃ (a b : List Int) (s : Bool), ds = [.v (.ints .u8 a), .v (.ints .u8 b), .v (.bool s)] ∧ Key a ∧ Key b
theorem xor128 {x : Int} (h : 0 ≤ x ∧ x < 256) : 0 ≤ bXor .u8 x 128 ∧ bXor .u8 x 128 < 256 ∧ bXor .u8 x 128 % 128 = x % 128 := by
  have hb : 0 ≤ bXor .u8 x 128 ∧ bXor .u8 x 128 < 256 := by unfold bXor; rw [wrap_u8]; omega
  refine ⟨hb.1, hb.2, ?_⟩
  have key : ∀ n : Nat, n < 256 → bXor .u8 (n : Int) 128 % 128 = (n : Int) % 128 := by decide +kernel
  obtain ⟨n, rfl⟩ := Int.eq_ofNat_of_zero_le h.1
  exact key n (by omega)
theorem kv_low {a : List Int} {v : Int} (h : Key a) (hv : 0 ≤ v ∧ v < 256) (hm : v % 128 = getI a 31 % 128) : Key (a.set 31 v) ∧ kv (a.set 31 v) = kv a := by
  have hk : Key (a.set 31 v) := ⟨by simp [h.1], h.2.set _ hv.1 hv.2⟩
  refine ⟨hk, ?_⟩
  have h1 := (key_low h).2
  have h2 := (key_low hk).2
  have e : (a.set 31 v).set 31 (getI (a.set 31 v) 31 % 128) = a.set 31 (getI a 31 % 128) := by
    rw [List.set_set, getI_set _ _ _ _ (by rw [h.1]; decide), if_pos rfl, hm]
  rw [e, h1] at h2
  unfold kv
  rw [h2]
theorem lawFieldAsks : ∀ ds, preAsk ds → Does Try.prog gl 4 (injV ds 4) (gl ++ injB true ds) (out (4 + (injB true ds).length) (FTrue ds)) := by
  refine fdoesA (l := [(23, s23), (24, s24), (25, s25), (30, s30), (33, s33), (34, s34), (35, s35)]) mixed gl_plain rfl Try.func4 comp4 compR4 nt4 (by simp only [List.mem_cons, List.not_mem_nil, or_false, forall_eq_or_imp, forall_eq]; exact ⟨ok23, ok24, ok25, ok30, ok33, ok34, ok35⟩) fun ds ⟨a, b, s, hd, ha, hb⟩ hA => ?_
  subst hd
  have hal := ha.1
  have hbl := hb.1
  have sa : sub a 0 32 = a := qda hal
  have sb : sub b 0 32 = b := qda hbl
  have hX := xo_el ha
  have hp := plc_lg ha
  obtain ⟨X, hXX⟩ : ∃ X, xo a = X := ⟨_, rfl⟩
  obtain ⟨p, hpp⟩ : ∃ p, plc a = p := ⟨_, rfl⟩
  have hXX' : dig 2251799813685248 5 (val 256 a) = X := hXX
  rw [hXX] at hX; rw [hpp] at hp
  have hXl := hX.len
  have sX : sub X 0 5 = X := qda hXl
  have spX : spl [0, 0, 0, 0, 0] 0 X = X := qc6 (by simp [hXl])
  have k1 := ha.p1
  have k2 := ha.p
  have q1 := hX.p1
  have g1 := hp.pk
  obtain ⟨k, hk⟩ : ∃ k, dig 256 32 (val 65536 p) = k := ⟨_, rfl⟩
  have b1 : bytesF X = k := by rw [hX.bytes, ← hk, hp.is]
  have hkl : k.length = 32 := by rw [← hk, qaj]
  have hkd : Dig 256 k := by rw [← hk]; exact dig_dig (by decide) _ _
  have sk : sub k 0 32 = k := qda hkl
  have spk : spl [0, 0, 0, 0, 0, 0, 0, 0, 0, 0, 0, 0, 0, 0, 0, 0, 0, 0, 0, 0, 0, 0, 0, 0, 0, 0, 0, 0, 0, 0, 0, 0] 0 k = k := qc6 (by simp [hkl])
  have hg := hkd.all (by decide) 0
  have w1 : bAnd .u8 (getI k 0) 1 = getI k 0 % 2 := bAnd_one8 hg.1 hg.2
  have r32 : List.replicate 32 (0 : Int) = [0, 0, 0, 0, 0, 0, 0, 0, 0, 0, 0, 0, 0, 0, 0, 0, 0, 0, 0, 0, 0, 0, 0, 0, 0, 0, 0, 0, 0, 0, 0, 0] := rfl
  have pA : pre23 [] := rfl
  have hsa := hal
  cases s with
  | true =>
    have hx := xor128 (ha.2.all (by decide) 31)
    have spa : spl b 0 a = a := qc6 (by omega)
    obtain ⟨hkc, hcv⟩ := kv_low ha ⟨hx.1, hx.2.1⟩ hx.2.2
    obtain ⟨c, hc⟩ : ∃ c, a.set 31 (bXor .u8 (getI a 31) 128) = c := ⟨_, rfl⟩
    rw [hc] at hkc hcv
    have hcl := hkc.1
    have sc : sub c 0 32 = c := qda hcl
    have hY := xo_el hkc
    have hq := plc_lg hkc
    rw [hcv] at hY hq
    obtain ⟨Y, hYY⟩ : ∃ Y, xo c = Y := ⟨_, rfl⟩
    obtain ⟨q, hqq⟩ : ∃ q, plc c = q := ⟨_, rfl⟩
    have hYY' : dig 2251799813685248 5 (val 256 c) = Y := hYY
    rw [hYY] at hY; rw [hqq] at hq
    have hYl := hY.len
    have sY : sub Y 0 5 = Y := qda hYl
    have spY : spl [0, 0, 0, 0, 0] 0 Y = Y := qc6 (by simp [hYl])
    have k3 := hkc.p1
    have k4 := hkc.p
    have q2 := hX.p2 hY
    have g2 := hq.pk
    have b2 : bytesF Y = k := by rw [hY.bytes, ← hk, hp.is]
    have b3 : dig 256 32 (val 65536 q) = k := by rw [← hk, hq.is, hp.is]
    simp only [s23, s24, s25, s30, s33, s34, s35]
    simp only [ir4,rs4,gl,FTrue,hal,hbl,sa,sb,spa,hc,hcl,sc,hXX',hpp,hYY',hqq,hXl,hYl,sX,sY,spX,spY,k1,k2,k3,k4,q1,q2,g1,g2,hk,b1,b2,b3,hkl,sk,spk,w1,pA,eq_self,BEq.rfl,s23,s24,s25,s30,s33,s34,s35,F23,F24,F25,F30,F33,F34,F35,qda,qc6,qaj,List.length_cons,List.length_nil,Nat.reduceAdd,Nat.le_refl,Nat.reduceLeDiff,Nat.reduceLT,true_and,and_true,↓qax,↓qay,↓qa0,↓qaz,↓qcs,↓qbj,↓qa1,↓qcl,↓qb3,↓qci,↓qcb,↓qce,↓qcf,↓qb4,↓qcd,↓qcj,↓qb5,↓qcg,↓qch,↓qb6,↓qcc,↓qca,↓qb9,↓qb8,↓qb7,↓qa5,↓qbc,↓qa6,↓qbd,↓qa7,↓qbe,↓qa8,↓qbf,↓qa9,↓qbg,↓qba,↓qbh,↓qbb,↓qbi,↓qb2,↓qck,↓qfc,↓qco,↓qcp,↓qcq,↓qcn,↓qcm,↓qbm,↓qbn,↓qb0,↓qbv,↓qbq,↓qbu,↓qbz,↓qbw,↓qby,↓qbx,↓qbr,↓qbp,↓qb1,↓qbs,↓qbt,↓qbo,↓qez,↓qey,↓qe3,↓qe5,↓qe4,↓qex,↓qew,↓qet,↓qeu,↓qe2,↓qe1,↓qe0,qc5,↓qeq,↓qer,↓qev,↓qc4,↓qc2,↓qc3,↓qe7,↓qe8,↓qe9,↓qe6,qaa,↓qes,↓qef,↓qeg,↓qfb,↓qfa,↓qei,↓qdk,↓qds,↓qd9,↓qea,↓qen,↓qeo,↓qdo,↓qdp,↓qdr,↓qdq,↓qdx,↓qep,↓qdv,↓qej,↓qdn,↓qed,↓qek,↓qel,↓qem,↓qd1,↓qd0,↓qd2,↓qd3,↓qd5,↓qdz,↓qd6,↓qd8,↓qd7,↓qdl,↓qdm,↓qdy,↓qaw,↓qdw,↓qee,↓qec,↓qdj,↓qeh,↓qeb,↓qd4,qav,List.drop_zero,Nat.sub_zero,qcy,qct,qcu,qdh,qat,qas,qaf,List.map_cons,List.map_nil,List.zip_cons_cons,List.zip_nil_right,List.zip_nil_left,qau,evs,evp,mkB,repB,blen,qae,qad,qac,qab,qc1,qc0,qdg,qdi,qde,qdf,qcx,qcz,qcv,qcw,↓qdc,↓qdb,↓qdd,↓qah,↓qag,↓qai,↓retQ,res,resAll,resOne,kill,apartOk,exp,injV,injB,pur,purs,purR,pursR,List.set_cons_zero,List.set_cons_succ,List.length_cons,List.length_nil,List.cons_append,List.nil_append,List.append_nil,List.append_assoc,List.length_append,List.reduceReplicate,Nat.reduceAdd,Nat.reduceMul,Nat.reduceSub,Nat.reduceEqDiff,Nat.reduceLT,Nat.zero_add,Nat.add_zero,Nat.mul_one,Int.reduceToNat,Int.toNat_natCast,Int.cast_ofNat_Int,Int.reduceLE,Int.reduceLT,Int.reduceEq,reduceCtorEq,↓reduceIte,Bool.true_eq_false,Bool.false_eq_true,Bool.not_true,Bool.not_false,true_and,and_true,and_assoc,qaj,sub1,qc8,qc7,qc9,List.length_replicate,Nat.le_refl,false_implies,true_implies,ne_eq,not_true_eq_false,not_false_eq_true,decide_true,decide_false,decide_eq_true_eq,decide_eq_false_iff_not,Bool.not_eq_true',Bool.not_eq_false']
    repeat (refine And.intro (by omega) ?_)
    simp only [out, outs, out1, pur, and_self]
  | false =>
    have hY := xo_el hb
    have hq := plc_lg hb
    obtain ⟨Y, hYY⟩ : ∃ Y, xo b = Y := ⟨_, rfl⟩
    obtain ⟨q, hqq⟩ : ∃ q, plc b = q := ⟨_, rfl⟩
    have hYY' : dig 2251799813685248 5 (val 256 b) = Y := hYY
    rw [hYY] at hY; rw [hqq] at hq
    have hYl := hY.len
    have sY : sub Y 0 5 = Y := qda hYl
    have spY : spl [0, 0, 0, 0, 0] 0 Y = Y := qc6 (by simp [hYl])
    have k3 := hb.p1
    have k4 := hb.p
    have q2 := hX.p2 hY
    have g2 := hq.pk
    obtain ⟨j, hj⟩ : ∃ j, dig 256 32 (val 65536 q) = j := ⟨_, rfl⟩
    have b2 : bytesF Y = j := by rw [hY.bytes, ← hj, hq.is]
    have hjl : j.length = 32 := by rw [← hj, qaj]
    simp only [s23, s24, s25, s30, s33, s34, s35]
    simp only [ir4,rs4,gl,FTrue,hal,hbl,sa,sb,hXX',hpp,hYY',hqq,hXl,hYl,sX,sY,spX,spY,k1,k2,k3,k4,q1,q2,g1,g2,hk,hj,hjl,b1,b2,hkl,sk,spk,w1,pA,eq_self,BEq.rfl,s23,s24,s25,s30,s33,s34,s35,F23,F24,F25,F30,F33,F34,F35,qda,qc6,qaj,List.length_cons,List.length_nil,Nat.reduceAdd,Nat.le_refl,Nat.reduceLeDiff,Nat.reduceLT,true_and,and_true,↓qax,↓qay,↓qa0,↓qaz,↓qcs,↓qbj,↓qa1,↓qcl,↓qb3,↓qci,↓qcb,↓qce,↓qcf,↓qb4,↓qcd,↓qcj,↓qb5,↓qcg,↓qch,↓qb6,↓qcc,↓qca,↓qb9,↓qb8,↓qb7,↓qa5,↓qbc,↓qa6,↓qbd,↓qa7,↓qbe,↓qa8,↓qbf,↓qa9,↓qbg,↓qba,↓qbh,↓qbb,↓qbi,↓qb2,↓qck,↓qfc,↓qco,↓qcp,↓qcq,↓qcn,↓qcm,↓qbm,↓qbn,↓qb0,↓qbv,↓qbq,↓qbu,↓qbz,↓qbw,↓qby,↓qbx,↓qbr,↓qbp,↓qb1,↓qbs,↓qbt,↓qbo,↓qez,↓qey,↓qe3,↓qe5,↓qe4,↓qex,↓qew,↓qet,↓qeu,↓qe2,↓qe1,↓qe0,qc5,↓qeq,↓qer,↓qev,↓qc4,↓qc2,↓qc3,↓qe7,↓qe8,↓qe9,↓qe6,qaa,↓qes,↓qef,↓qeg,↓qfb,↓qfa,↓qei,↓qdk,↓qds,↓qd9,↓qea,↓qen,↓qeo,↓qdo,↓qdp,↓qdr,↓qdq,↓qdx,↓qep,↓qdv,↓qej,↓qdn,↓qed,↓qek,↓qel,↓qem,↓qd1,↓qd0,↓qd2,↓qd3,↓qd5,↓qdz,↓qd6,↓qd8,↓qd7,↓qdl,↓qdm,↓qdy,↓qaw,↓qdw,↓qee,↓qec,↓qdj,↓qeh,↓qeb,↓qd4,qav,List.drop_zero,Nat.sub_zero,qcy,qct,qcu,qdh,qat,qas,qaf,List.map_cons,List.map_nil,List.zip_cons_cons,List.zip_nil_right,List.zip_nil_left,qau,evs,evp,mkB,repB,blen,qae,qad,qac,qab,qc1,qc0,qdg,qdi,qde,qdf,qcx,qcz,qcv,qcw,↓qdc,↓qdb,↓qdd,↓qah,↓qag,↓qai,↓retQ,res,resAll,resOne,kill,apartOk,exp,injV,injB,pur,purs,purR,pursR,List.set_cons_zero,List.set_cons_succ,List.length_cons,List.length_nil,List.cons_append,List.nil_append,List.append_nil,List.append_assoc,List.length_append,List.reduceReplicate,Nat.reduceAdd,Nat.reduceMul,Nat.reduceSub,Nat.reduceEqDiff,Nat.reduceLT,Nat.zero_add,Nat.add_zero,Nat.mul_one,Int.reduceToNat,Int.toNat_natCast,Int.cast_ofNat_Int,Int.reduceLE,Int.reduceLT,Int.reduceEq,reduceCtorEq,↓reduceIte,Bool.true_eq_false,Bool.false_eq_true,Bool.not_true,Bool.not_false,true_and,and_true,and_assoc,qaj,sub1,qc8,qc7,qc9,List.length_replicate,Nat.le_refl,false_implies,true_implies,ne_eq,not_true_eq_false,not_false_eq_true,decide_true,decide_false,decide_eq_true_eq,decide_eq_false_iff_not,Bool.not_eq_true',Bool.not_eq_false']
    repeat (refine And.intro (by omega) ?_)
    simp only [out, outs, out1, pur, and_self]
end Am
set_option linter.unusedSimpArgs false
set_option linter.unusedVariables false
set_option maxRecDepth 20000
namespace Am
open Go.Proofs
/-! ### FieldChains -/
def preChain (ds : List D) : Prop := ∃ (a : V) (ks : List Int), ds = [.v a, .s .u8 ks] ∧ (a = .nils ∨ ∃ (m : Nat) (xs : List Int), a = .rsl 32 m .u8 xs ∧ xs.length = m * 32 ∧ m ≤ 9223372036854775807 ∧ Dig 256 xs) ∧ (Dig 256 ks ∧ ks.length ≤ 9223372036854775807)
theorem chain_pre {a : V} (h : GSla 32 .u8 [a]) : a = .nils ∨ ∃ (m : Nat) (xs : List Int), a = .rsl 32 m .u8 xs ∧ xs.length = m * 32 ∧ m ≤ 9223372036854775807 ∧ Dig 256 xs := by
  rcases h with h | ⟨m, xs, h, h1, h2, h3⟩
  · exact .inl (List.cons.inj h).1
  · exact .inr ⟨m, xs, (List.cons.inj h).1, h1, Nat.le_trans h2 (by decide), dig_u8 h3⟩
theorem key_part {xs : List Int} {m : Nat} (hl : xs.length = m * 32) (hd : Dig 256 xs) {j : Nat} (hj : j < m) : Key (sub xs (j * 32) 32) :=
  ⟨by simp only [sub, List.length_take, List.length_drop, hl]; omega, hd.sub _ _⟩
def kop (r : Int) (x y : Int) : Int := if r = 0 then (x + y) % Pp else if r = 1 then (x - y) % Pp else if r = 2 then (y - x) % Pp else if r = 3 then x * x % Pp else x * y % Pp
structure Cs where
  i : Nat
  X : List Int
  p : List Int
  x : Int
theorem lawFieldChains : ∀ ds, preChain ds → Does Try.prog gl 8 (injV ds 4) (gl ++ injB true ds) (out (4 + (injB true ds).length) (FTrue ds)) := by
  refine fdoesA (l := [(23, s23), (24, s24), (25, s25), (38, s38), (41, s41), (42, s42), (43, s43), (39, s39), (44, s44), (27, s27), (30, s30)]) mixed gl_plain rfl Try.func8 comp8 compR8 nt8 (by simp only [List.mem_cons, List.not_mem_nil, or_false, forall_eq_or_imp, forall_eq]; exact ⟨ok23, ok24, ok25, ok38, ok41, ok42, ok43, ok39, ok44, ok27, ok30⟩) fun ds ⟨a, ks, hd, hlist, hks, hkl⟩ hA => ?_
  subst hd
  have pA : pre23 [] := rfl
  simp only [s23, s24, s25, s38, s41, s42, s43, s39, s44, s27, s30]
  rcases hlist with rfl | ⟨m, xs, rfl, hxl, hm, hxd⟩
  · simp only [ir8,rs8,gl,FTrue,pA,s23,F23,qda,qc6,qaj,List.length_cons,List.length_nil,Nat.reduceAdd,Nat.le_refl,Nat.reduceLeDiff,Nat.reduceLT,true_and,and_true,↓qax,↓qay,↓qa0,↓qaz,↓qcs,↓qbj,↓qa1,↓qcl,↓qb3,↓qci,↓qcb,↓qce,↓qcf,↓qb4,↓qcd,↓qcj,↓qb5,↓qcg,↓qch,↓qb6,↓qcc,↓qca,↓qb9,↓qb8,↓qb7,↓qa5,↓qbc,↓qa6,↓qbd,↓qa7,↓qbe,↓qa8,↓qbf,↓qa9,↓qbg,↓qba,↓qbh,↓qbb,↓qbi,↓qb2,↓qck,↓qfc,↓qco,↓qcp,↓qcq,↓qcn,↓qcm,↓qbm,↓qbn,↓qb0,↓qbv,↓qbq,↓qbu,↓qbz,↓qbw,↓qby,↓qbx,↓qbr,↓qbp,↓qb1,↓qbs,↓qbt,↓qbo,↓qez,↓qey,↓qe3,↓qe5,↓qe4,↓qex,↓qew,↓qet,↓qeu,↓qe2,↓qe1,↓qe0,qc5,↓qeq,↓qer,↓qev,↓qc4,↓qc2,↓qc3,↓qe7,↓qe8,↓qe9,↓qe6,qaa,↓qes,↓qef,↓qeg,↓qfb,↓qfa,↓qei,↓qdk,↓qds,↓qd9,↓qea,↓qen,↓qeo,↓qdo,↓qdp,↓qdr,↓qdq,↓qdx,↓qep,↓qdv,↓qej,↓qdn,↓qed,↓qek,↓qel,↓qem,↓qd1,↓qd0,↓qd2,↓qd3,↓qd5,↓qdz,↓qd6,↓qd8,↓qd7,↓qdl,↓qdm,↓qdy,↓qaw,↓qdw,↓qee,↓qec,↓qdj,↓qeh,↓qeb,↓qd4,qav,List.drop_zero,Nat.sub_zero,qcy,qct,qcu,qdh,qat,qas,qaf,List.map_cons,List.map_nil,List.zip_cons_cons,List.zip_nil_right,List.zip_nil_left,qau,evs,evp,mkB,repB,blen,qae,qad,qac,qab,qc1,qc0,qdg,qdi,qde,qdf,qcx,qcz,qcv,qcw,↓qdc,↓qdb,↓qdd,↓qah,↓qag,↓qai,↓retQ,res,resAll,resOne,kill,apartOk,exp,injV,injB,pur,purs,purR,pursR,List.set_cons_zero,List.set_cons_succ,List.length_cons,List.length_nil,List.cons_append,List.nil_append,List.append_nil,List.append_assoc,List.length_append,List.reduceReplicate,Nat.reduceAdd,Nat.reduceMul,Nat.reduceSub,Nat.reduceEqDiff,Nat.reduceLT,Nat.zero_add,Nat.add_zero,Nat.mul_one,Int.reduceToNat,Int.toNat_natCast,Int.cast_ofNat_Int,Int.reduceLE,Int.reduceLT,Int.reduceEq,reduceCtorEq,↓reduceIte,Bool.true_eq_false,Bool.false_eq_true,Bool.not_true,Bool.not_false,true_and,and_true,and_assoc,qaj,sub1,qc8,qc7,qc9,List.length_replicate,Nat.le_refl,false_implies,true_implies,ne_eq,not_true_eq_false,not_false_eq_true,decide_true,decide_false,decide_eq_true_eq,decide_eq_false_iff_not,Bool.not_eq_true',Bool.not_eq_false']
    simp only [out, outs, out1, pur, and_self]
  by_cases hm0 : m = 0
  · subst hm0
    simp only [ir8,rs8,gl,FTrue,pA,s23,F23,qda,qc6,qaj,List.length_cons,List.length_nil,Nat.reduceAdd,Nat.le_refl,Nat.reduceLeDiff,Nat.reduceLT,true_and,and_true,↓qax,↓qay,↓qa0,↓qaz,↓qcs,↓qbj,↓qa1,↓qcl,↓qb3,↓qci,↓qcb,↓qce,↓qcf,↓qb4,↓qcd,↓qcj,↓qb5,↓qcg,↓qch,↓qb6,↓qcc,↓qca,↓qb9,↓qb8,↓qb7,↓qa5,↓qbc,↓qa6,↓qbd,↓qa7,↓qbe,↓qa8,↓qbf,↓qa9,↓qbg,↓qba,↓qbh,↓qbb,↓qbi,↓qb2,↓qck,↓qfc,↓qco,↓qcp,↓qcq,↓qcn,↓qcm,↓qbm,↓qbn,↓qb0,↓qbv,↓qbq,↓qbu,↓qbz,↓qbw,↓qby,↓qbx,↓qbr,↓qbp,↓qb1,↓qbs,↓qbt,↓qbo,↓qez,↓qey,↓qe3,↓qe5,↓qe4,↓qex,↓qew,↓qet,↓qeu,↓qe2,↓qe1,↓qe0,qc5,↓qeq,↓qer,↓qev,↓qc4,↓qc2,↓qc3,↓qe7,↓qe8,↓qe9,↓qe6,qaa,↓qes,↓qef,↓qeg,↓qfb,↓qfa,↓qei,↓qdk,↓qds,↓qd9,↓qea,↓qen,↓qeo,↓qdo,↓qdp,↓qdr,↓qdq,↓qdx,↓qep,↓qdv,↓qej,↓qdn,↓qed,↓qek,↓qel,↓qem,↓qd1,↓qd0,↓qd2,↓qd3,↓qd5,↓qdz,↓qd6,↓qd8,↓qd7,↓qdl,↓qdm,↓qdy,↓qaw,↓qdw,↓qee,↓qec,↓qdj,↓qeh,↓qeb,↓qd4,qav,List.drop_zero,Nat.sub_zero,qcy,qct,qcu,qdh,qat,qas,qaf,List.map_cons,List.map_nil,List.zip_cons_cons,List.zip_nil_right,List.zip_nil_left,qau,evs,evp,mkB,repB,blen,qae,qad,qac,qab,qc1,qc0,qdg,qdi,qde,qdf,qcx,qcz,qcv,qcw,↓qdc,↓qdb,↓qdd,↓qah,↓qag,↓qai,↓retQ,res,resAll,resOne,kill,apartOk,exp,injV,injB,pur,purs,purR,pursR,List.set_cons_zero,List.set_cons_succ,List.length_cons,List.length_nil,List.cons_append,List.nil_append,List.append_nil,List.append_assoc,List.length_append,List.reduceReplicate,Nat.reduceAdd,Nat.reduceMul,Nat.reduceSub,Nat.reduceEqDiff,Nat.reduceLT,Nat.zero_add,Nat.add_zero,Nat.mul_one,Int.reduceToNat,Int.toNat_natCast,Int.cast_ofNat_Int,Int.reduceLE,Int.reduceLT,Int.reduceEq,reduceCtorEq,↓reduceIte,Bool.true_eq_false,Bool.false_eq_true,Bool.not_true,Bool.not_false,true_and,and_true,and_assoc,qaj,sub1,qc8,qc7,qc9,List.length_replicate,Nat.le_refl,false_implies,true_implies,ne_eq,not_true_eq_false,not_false_eq_true,decide_true,decide_false,decide_eq_true_eq,decide_eq_false_iff_not,Bool.not_eq_true',Bool.not_eq_false']
    simp only [out, outs, out1, pur, and_self]
  have c0 : ¬ (m : Int) = 0 := by omega
  have hk0 := key_part hxl hxd (j := 0) (by omega)
  have z0 : 0 * 32 = 0 := rfl
  rw [z0] at hk0
  obtain ⟨k, hk⟩ : ∃ k, sub xs 0 32 = k := ⟨_, rfl⟩
  rw [hk] at hk0
  have hX := xo_el hk0
  have hp := plc_lg hk0
  obtain ⟨X0, hXX⟩ : ∃ X, xo k = X := ⟨_, rfl⟩
  obtain ⟨p0, hpp⟩ : ∃ p, plc k = p := ⟨_, rfl⟩
  have hXX' : dig 2251799813685248 5 (val 256 k) = X0 := hXX
  rw [hXX] at hX; rw [hpp] at hp
  have hXl := hX.len
  have spX : spl [0, 0, 0, 0, 0] 0 X0 = X0 := qc6 (by simp [hXl])
  have k1 := hk0.p1
  have k2 := hk0.p
  have hkl0 := hk0.1
  have hm1 : 0 < m := by omega
  have hb32 : 32 ≤ xs.length := by omega
  simp only [ir8,rs8,gl,FTrue,pA,c0,hm1,hb32,hk,hkl0,hXX',hpp,hXl,spX,k1,k2,s23,s24,s25,F23,F24,F25,qda,qc6,qaj,List.length_cons,List.length_nil,Nat.reduceAdd,Nat.le_refl,Nat.reduceLeDiff,Nat.reduceLT,true_and,and_true,↓qax,↓qay,↓qa0,↓qaz,↓qcs,↓qbj,↓qa1,↓qcl,↓qb3,↓qci,↓qcb,↓qce,↓qcf,↓qb4,↓qcd,↓qcj,↓qb5,↓qcg,↓qch,↓qb6,↓qcc,↓qca,↓qb9,↓qb8,↓qb7,↓qa5,↓qbc,↓qa6,↓qbd,↓qa7,↓qbe,↓qa8,↓qbf,↓qa9,↓qbg,↓qba,↓qbh,↓qbb,↓qbi,↓qb2,↓qck,↓qfc,↓qco,↓qcp,↓qcq,↓qcn,↓qcm,↓qbm,↓qbn,↓qb0,↓qbv,↓qbq,↓qbu,↓qbz,↓qbw,↓qby,↓qbx,↓qbr,↓qbp,↓qb1,↓qbs,↓qbt,↓qbo,↓qez,↓qey,↓qe3,↓qe5,↓qe4,↓qex,↓qew,↓qet,↓qeu,↓qe2,↓qe1,↓qe0,qc5,↓qeq,↓qer,↓qev,↓qc4,↓qc2,↓qc3,↓qe7,↓qe8,↓qe9,↓qe6,qaa,↓qes,↓qef,↓qeg,↓qfb,↓qfa,↓qei,↓qdk,↓qds,↓qd9,↓qea,↓qen,↓qeo,↓qdo,↓qdp,↓qdr,↓qdq,↓qdx,↓qep,↓qdv,↓qej,↓qdn,↓qed,↓qek,↓qel,↓qem,↓qd1,↓qd0,↓qd2,↓qd3,↓qd5,↓qdz,↓qd6,↓qd8,↓qd7,↓qdl,↓qdm,↓qdy,↓qaw,↓qdw,↓qee,↓qec,↓qdj,↓qeh,↓qeb,↓qd4,qav,List.drop_zero,Nat.sub_zero,qcy,qct,qcu,qdh,qat,qas,qaf,List.map_cons,List.map_nil,List.zip_cons_cons,List.zip_nil_right,List.zip_nil_left,qau,evs,evp,mkB,repB,blen,qae,qad,qac,qab,qc1,qc0,qdg,qdi,qde,qdf,qcx,qcz,qcv,qcw,↓qdc,↓qdb,↓qdd,↓qah,↓qag,↓qai,↓retQ,res,resAll,resOne,kill,apartOk,exp,injV,injB,pur,purs,purR,pursR,List.set_cons_zero,List.set_cons_succ,List.length_cons,List.length_nil,List.cons_append,List.nil_append,List.append_nil,List.append_assoc,List.length_append,List.reduceReplicate,Nat.reduceAdd,Nat.reduceMul,Nat.reduceSub,Nat.reduceEqDiff,Nat.reduceLT,Nat.zero_add,Nat.add_zero,Nat.mul_one,Int.reduceToNat,Int.toNat_natCast,Int.cast_ofNat_Int,Int.reduceLE,Int.reduceLT,Int.reduceEq,reduceCtorEq,↓reduceIte,Bool.true_eq_false,Bool.false_eq_true,Bool.not_true,Bool.not_false,true_and,and_true,and_assoc,qaj,sub1,qc8,qc7,qc9,List.length_replicate,Nat.le_refl,false_implies,true_implies,ne_eq,not_true_eq_false,not_false_eq_true,decide_true,decide_false,decide_eq_true_eq,decide_eq_false_iff_not,Bool.not_eq_true',Bool.not_eq_false']
  repeat (refine And.intro (by omega) ?_)
  refine awp_loopA (n := 91) hA [0, 5, 6, 25, 26, 27] (by decide +kernel) (fun s : Cs => [.rsl 32 m .u8 xs, .ptr 6 0, .slice 5 0 1 s.p.length s.p.length, .slice 4 0 1 ks.length ks.length, .int .i64 ks.length, .int .i64 s.i])
    (fun s => [.dead, .dead, .dead, .dead, .ints true .u8 ks, .ints false .u32 s.p, .ints false .u64 s.X]) (fun s => s.i ≤ ks.length ∧ El s.X s.x ∧ Lg s.p s.x) (fun s => ks.length - s.i) ⟨0, X0, p0, kv k⟩ ?_ ⟨Nat.zero_le _, hX, hp⟩ ?_
  · first
      | (refine Hd.same ?_
         simp only [↓qax,↓qay,↓qa0,↓qaz,↓qcs,↓qbj,↓qa1,↓qcl,↓qb3,↓qci,↓qcb,↓qce,↓qcf,↓qb4,↓qcd,↓qcj,↓qb5,↓qcg,↓qch,↓qb6,↓qcc,↓qca,↓qb9,↓qb8,↓qb7,↓qa5,↓qbc,↓qa6,↓qbd,↓qa7,↓qbe,↓qa8,↓qbf,↓qa9,↓qbg,↓qba,↓qbh,↓qbb,↓qbi,↓qb2,↓qck,↓qfc,↓qco,↓qcp,↓qcq,↓qcn,↓qcm,↓qbm,↓qbn,↓qb0,↓qbv,↓qbq,↓qbu,↓qbz,↓qbw,↓qby,↓qbx,↓qbr,↓qbp,↓qb1,↓qbs,↓qbt,↓qbo,↓qez,↓qey,↓qe3,↓qe5,↓qe4,↓qex,↓qew,↓qet,↓qeu,↓qe2,↓qe1,↓qe0,qc5,↓qeq,↓qer,↓qev,↓qc4,↓qc2,↓qc3,↓qe7,↓qe8,↓qe9,↓qe6,qaa,↓qes,↓qef,↓qeg,↓qfb,↓qfa,↓qei,↓qdk,↓qds,↓qd9,↓qea,↓qen,↓qeo,↓qdo,↓qdp,↓qdr,↓qdq,↓qdx,↓qep,↓qdv,↓qej,↓qdn,↓qed,↓qek,↓qel,↓qem,↓qd1,↓qd0,↓qd2,↓qd3,↓qd5,↓qdz,↓qd6,↓qd8,↓qd7,↓qdl,↓qdm,↓qdy,↓qaw,↓qdw,↓qee,↓qec,↓qdj,↓qeh,↓qeb,↓qd4,qav,List.drop_zero,Nat.sub_zero,qcy,qct,qcu,qdh,qat,qas,qaf,List.map_cons,List.map_nil,List.zip_cons_cons,List.zip_nil_right,List.zip_nil_left,qau,evs,evp,mkB,repB,blen,qae,qad,qac,qab,qc1,qc0,qdg,qdi,qde,qdf,qcx,qcz,qcv,qcw,↓qdc,↓qdb,↓qdd,↓qah,↓qag,↓qai,↓retQ,res,resAll,resOne,kill,apartOk,exp,injV,injB,pur,purs,purR,pursR,List.set_cons_zero,List.set_cons_succ,List.length_cons,List.length_nil,List.cons_append,List.nil_append,List.append_nil,List.append_assoc,List.length_append,List.reduceReplicate,Nat.reduceAdd,Nat.reduceMul,Nat.reduceSub,Nat.reduceEqDiff,Nat.reduceLT,Nat.zero_add,Nat.add_zero,Nat.mul_one,Int.reduceToNat,Int.toNat_natCast,Int.cast_ofNat_Int,Int.reduceLE,Int.reduceLT,Int.reduceEq,reduceCtorEq,↓reduceIte,Bool.true_eq_false,Bool.false_eq_true,Bool.not_true,Bool.not_false,true_and,and_true,and_assoc,qaj,sub1,qc8,qc7,qc9,List.length_replicate,Nat.le_refl,false_implies,true_implies,ne_eq,not_true_eq_false,not_false_eq_true,decide_true,decide_false,decide_eq_true_eq,decide_eq_false_iff_not,Bool.not_eq_true',Bool.not_eq_false']; done)
      | (refine Hd.of [0, 1, 2, 3, 4, 6, 5] (by decide) (by decide) (by simp) ?_
         simp only [gc,gcVs,gcV,posOf,gcH,gcB,Option.map_some,Option.map_none,List.replicate_zero,List.drop_zero,↓qax,↓qay,↓qa0,↓qaz,↓qcs,↓qbj,↓qa1,↓qcl,↓qb3,↓qci,↓qcb,↓qce,↓qcf,↓qb4,↓qcd,↓qcj,↓qb5,↓qcg,↓qch,↓qb6,↓qcc,↓qca,↓qb9,↓qb8,↓qb7,↓qa5,↓qbc,↓qa6,↓qbd,↓qa7,↓qbe,↓qa8,↓qbf,↓qa9,↓qbg,↓qba,↓qbh,↓qbb,↓qbi,↓qb2,↓qck,↓qfc,↓qco,↓qcp,↓qcq,↓qcn,↓qcm,↓qbm,↓qbn,↓qb0,↓qbv,↓qbq,↓qbu,↓qbz,↓qbw,↓qby,↓qbx,↓qbr,↓qbp,↓qb1,↓qbs,↓qbt,↓qbo,↓qez,↓qey,↓qe3,↓qe5,↓qe4,↓qex,↓qew,↓qet,↓qeu,↓qe2,↓qe1,↓qe0,qc5,↓qeq,↓qer,↓qev,↓qc4,↓qc2,↓qc3,↓qe7,↓qe8,↓qe9,↓qe6,qaa,↓qes,↓qef,↓qeg,↓qfb,↓qfa,↓qei,↓qdk,↓qds,↓qd9,↓qea,↓qen,↓qeo,↓qdo,↓qdp,↓qdr,↓qdq,↓qdx,↓qep,↓qdv,↓qej,↓qdn,↓qed,↓qek,↓qel,↓qem,↓qd1,↓qd0,↓qd2,↓qd3,↓qd5,↓qdz,↓qd6,↓qd8,↓qd7,↓qdl,↓qdm,↓qdy,↓qaw,↓qdw,↓qee,↓qec,↓qdj,↓qeh,↓qeb,↓qd4,qav,List.drop_zero,Nat.sub_zero,qcy,qct,qcu,qdh,qat,qas,qaf,List.map_cons,List.map_nil,List.zip_cons_cons,List.zip_nil_right,List.zip_nil_left,qau,evs,evp,mkB,repB,blen,qae,qad,qac,qab,qc1,qc0,qdg,qdi,qde,qdf,qcx,qcz,qcv,qcw,↓qdc,↓qdb,↓qdd,↓qah,↓qag,↓qai,↓retQ,res,resAll,resOne,kill,apartOk,exp,injV,injB,pur,purs,purR,pursR,List.set_cons_zero,List.set_cons_succ,List.length_cons,List.length_nil,List.cons_append,List.nil_append,List.append_nil,List.append_assoc,List.length_append,List.reduceReplicate,Nat.reduceAdd,Nat.reduceMul,Nat.reduceSub,Nat.reduceEqDiff,Nat.reduceLT,Nat.zero_add,Nat.add_zero,Nat.mul_one,Int.reduceToNat,Int.toNat_natCast,Int.cast_ofNat_Int,Int.reduceLE,Int.reduceLT,Int.reduceEq,reduceCtorEq,↓reduceIte,Bool.true_eq_false,Bool.false_eq_true,Bool.not_true,Bool.not_false,true_and,and_true,and_assoc,qaj,sub1,qc8,qc7,qc9,List.length_replicate,Nat.le_refl,false_implies,true_implies,ne_eq,not_true_eq_false,not_false_eq_true,decide_true,decide_false,decide_eq_true_eq,decide_eq_false_iff_not,Bool.not_eq_true',Bool.not_eq_false']; done)
  clear hX hp spX k1 k2 hkl0 hk0 hXX hXX' hpp hXl hk
  rintro ⟨i, X, p, x⟩ ⟨hi, hX, hp⟩ K hK
  simp only at hi hX hp hK
  have hXl := hX.len
  have sX : sub X 0 5 = X := qda hXl
  by_cases hgo : i < ks.length ∧ i ≤ 60
  · have c1 : (i : Int) < (ks.length : Int) := by omega
    have c2 : ¬ (60 : Int) < (i : Int) := by omega
    have wi : Go.IntKind.i64.wrap ((i : Int) + 1) = ((i + 1 : Nat) : Int) := by rw [wrap_i64]; omega
    have hil := hgo.1
    obtain ⟨j, hj⟩ : ∃ j, i % m = j := ⟨_, rfl⟩
    have hjm : j < m := by rw [← hj]; exact Nat.mod_lt _ hm1
    have tm : (i : Int).tmod (m : Int) = (j : Int) := by rw [tmod_nat, hj]
    have hb : j * 32 + 32 ≤ xs.length := by rw [hxl]; omega
    have hk0 := key_part hxl hxd hjm
    obtain ⟨k, hk⟩ : ∃ k, sub xs (j * 32) 32 = k := ⟨_, rfl⟩
    rw [hk] at hk0
    have hkl0 := hk0.1
    have sk : sub k 0 32 = k := qda hkl0
    have spk : spl [0, 0, 0, 0, 0, 0, 0, 0, 0, 0, 0, 0, 0, 0, 0, 0, 0, 0, 0, 0, 0, 0, 0, 0, 0, 0, 0, 0, 0, 0, 0, 0] 0 k = k := qc6 (by simp [hkl0])
    have hY := xo_el hk0
    have hq := plc_lg hk0
    obtain ⟨Y, hYY⟩ : ∃ Y, xo k = Y := ⟨_, rfl⟩
    obtain ⟨q, hqq⟩ : ∃ q, plc k = q := ⟨_, rfl⟩
    obtain ⟨y, hyy⟩ : ∃ y, kv k = y := ⟨_, rfl⟩
    have hYY' : dig 2251799813685248 5 (val 256 k) = Y := hYY
    rw [hYY, hyy] at hY; rw [hqq, hyy] at hq
    have hYl := hY.len
    have sY : sub Y 0 5 = Y := qda hYl
    have spY : spl [0, 0, 0, 0, 0] 0 Y = Y := qc6 (by simp [hYl])
    have k1 := hk0.p1
    have k2 := hk0.p
    have hg := hks.get hil
    obtain ⟨r, hr⟩ : ∃ r, getI ks i % 5 = r := ⟨_, rfl⟩
    have tr : (getI ks i).tmod 5 = r := by rw [Int.tmod_eq_emod_of_nonneg hg.1, hr]
    have p1 := hX.p2 hY
    have p2 := hY.p2 hX
    have p3 := hX.p2 hX
    have g1 := hp.p2 hq
    have g2 := hq.p2 hp
    have g3 := hp.p2 hp
    have e0 := add_el hX hY
    have e1 := sub_el hX hY
    have e2 := sub_el hY hX
    have e3 := mul_el hX hX
    have e4 := mul_el hX hY
    have f0 := radd_lg hp hq
    have f1 := rsub_lg hp hq
    have f2 := rsub_lg hq hp
    have f3 := rmul_lg hp hp
    have f4 := rmul_lg hp hq
    have sp0 : spl X 0 (addF X Y) = addF X Y := qc6 (by rw [e0.len]; omega)
    have sp1 : spl X 0 (subF X Y) = subF X Y := qc6 (by rw [e1.len]; omega)
    have sp2 : spl X 0 (subF Y X) = subF Y X := qc6 (by rw [e2.len]; omega)
    have sp3 : spl X 0 (mulF X X) = mulF X X := qc6 (by rw [e3.len]; omega)
    have sp4 : spl X 0 (mulF X Y) = mulF X Y := qc6 (by rw [e4.len]; omega)
    have l0 := e0.len
    have l1 := e1.len
    have l2 := e2.len
    have l3 := e3.len
    have l4 := e4.len
    have n10 : ¬ (1 : Int) = 0 := by decide
    have n20 : ¬ (2 : Int) = 0 := by decide
    have n21 : ¬ (2 : Int) = 1 := by decide
    have n30 : ¬ (3 : Int) = 0 := by decide
    have n31 : ¬ (3 : Int) = 1 := by decide
    have n32 : ¬ (3 : Int) = 2 := by decide
    have n40 : ¬ (4 : Int) = 0 := by decide
    have n41 : ¬ (4 : Int) = 1 := by decide
    have n42 : ¬ (4 : Int) = 2 := by decide
    have n43 : ¬ (4 : Int) = 3 := by decide
    simp only [s23, s24, s25, s38, s41, s42, s43, s39, s44, s27, s30]
    rcases (by omega : r = 0 ∨ r = 1 ∨ r = 2 ∨ r = 3 ∨ r = 4) with rfl | rfl | rfl | rfl | rfl
    all_goals
      simp only [c0,c1,c2,wi,hil,tm,hjm,hb,hk,hkl0,sk,spk,hYY',hqq,hXl,hYl,sX,sY,spY,k1,k2,tr,p1,p2,p3,g1,g2,g3,sp0,sp1,sp2,sp3,sp4,l0,l1,l2,l3,l4,n10,n20,n21,n30,n31,n32,n40,n41,n42,n43,s24,s25,s38,s41,s42,s43,s39,s44,F24,F25,F38,F41,F42,F43,F39,F44,qda,qc6,qaj,List.length_cons,List.length_nil,Nat.reduceAdd,Nat.le_refl,Nat.reduceLeDiff,Nat.reduceLT,true_and,and_true,↓qax,↓qay,↓qa0,↓qaz,↓qcs,↓qbj,↓qa1,↓qcl,↓qb3,↓qci,↓qcb,↓qce,↓qcf,↓qb4,↓qcd,↓qcj,↓qb5,↓qcg,↓qch,↓qb6,↓qcc,↓qca,↓qb9,↓qb8,↓qb7,↓qa5,↓qbc,↓qa6,↓qbd,↓qa7,↓qbe,↓qa8,↓qbf,↓qa9,↓qbg,↓qba,↓qbh,↓qbb,↓qbi,↓qb2,↓qck,↓qfc,↓qco,↓qcp,↓qcq,↓qcn,↓qcm,↓qbm,↓qbn,↓qb0,↓qbv,↓qbq,↓qbu,↓qbz,↓qbw,↓qby,↓qbx,↓qbr,↓qbp,↓qb1,↓qbs,↓qbt,↓qbo,↓qez,↓qey,↓qe3,↓qe5,↓qe4,↓qex,↓qew,↓qet,↓qeu,↓qe2,↓qe1,↓qe0,qc5,↓qeq,↓qer,↓qev,↓qc4,↓qc2,↓qc3,↓qe7,↓qe8,↓qe9,↓qe6,qaa,↓qes,↓qef,↓qeg,↓qfb,↓qfa,↓qei,↓qdk,↓qds,↓qd9,↓qea,↓qen,↓qeo,↓qdo,↓qdp,↓qdr,↓qdq,↓qdx,↓qep,↓qdv,↓qej,↓qdn,↓qed,↓qek,↓qel,↓qem,↓qd1,↓qd0,↓qd2,↓qd3,↓qd5,↓qdz,↓qd6,↓qd8,↓qd7,↓qdl,↓qdm,↓qdy,↓qaw,↓qdw,↓qee,↓qec,↓qdj,↓qeh,↓qeb,↓qd4,qav,List.drop_zero,Nat.sub_zero,qcy,qct,qcu,qdh,qat,qas,qaf,List.map_cons,List.map_nil,List.zip_cons_cons,List.zip_nil_right,List.zip_nil_left,qau,evs,evp,mkB,repB,blen,qae,qad,qac,qab,qc1,qc0,qdg,qdi,qde,qdf,qcx,qcz,qcv,qcw,↓qdc,↓qdb,↓qdd,↓qah,↓qag,↓qai,↓retQ,res,resAll,resOne,kill,apartOk,exp,injV,injB,pur,purs,purR,pursR,List.set_cons_zero,List.set_cons_succ,List.length_cons,List.length_nil,List.cons_append,List.nil_append,List.append_nil,List.append_assoc,List.length_append,List.reduceReplicate,Nat.reduceAdd,Nat.reduceMul,Nat.reduceSub,Nat.reduceEqDiff,Nat.reduceLT,Nat.zero_add,Nat.add_zero,Nat.mul_one,Int.reduceToNat,Int.toNat_natCast,Int.cast_ofNat_Int,Int.reduceLE,Int.reduceLT,Int.reduceEq,reduceCtorEq,↓reduceIte,Bool.true_eq_false,Bool.false_eq_true,Bool.not_true,Bool.not_false,true_and,and_true,and_assoc,qaj,sub1,qc8,qc7,qc9,List.length_replicate,Nat.le_refl,false_implies,true_implies,ne_eq,not_true_eq_false,not_false_eq_true,decide_true,decide_false,decide_eq_true_eq,decide_eq_false_iff_not,Bool.not_eq_true',Bool.not_eq_false']
      repeat (refine And.intro (by omega) ?_)
    · refine ⟨⟨i + 1, addF X Y, radd p q, (x + y) % Pp⟩, hK _ ⟨by simp only; omega, e0, f0⟩ (by simp only; omega), Hd.of [0, 1, 2, 3, 4, 10, 6] (by decide) (by decide) (by simp) ?_⟩
      simp only [gc,gcVs,gcV,posOf,gcH,gcB,Option.map_some,Option.map_none,List.replicate_zero,List.drop_zero,↓qax,↓qay,↓qa0,↓qaz,↓qcs,↓qbj,↓qa1,↓qcl,↓qb3,↓qci,↓qcb,↓qce,↓qcf,↓qb4,↓qcd,↓qcj,↓qb5,↓qcg,↓qch,↓qb6,↓qcc,↓qca,↓qb9,↓qb8,↓qb7,↓qa5,↓qbc,↓qa6,↓qbd,↓qa7,↓qbe,↓qa8,↓qbf,↓qa9,↓qbg,↓qba,↓qbh,↓qbb,↓qbi,↓qb2,↓qck,↓qfc,↓qco,↓qcp,↓qcq,↓qcn,↓qcm,↓qbm,↓qbn,↓qb0,↓qbv,↓qbq,↓qbu,↓qbz,↓qbw,↓qby,↓qbx,↓qbr,↓qbp,↓qb1,↓qbs,↓qbt,↓qbo,↓qez,↓qey,↓qe3,↓qe5,↓qe4,↓qex,↓qew,↓qet,↓qeu,↓qe2,↓qe1,↓qe0,qc5,↓qeq,↓qer,↓qev,↓qc4,↓qc2,↓qc3,↓qe7,↓qe8,↓qe9,↓qe6,qaa,↓qes,↓qef,↓qeg,↓qfb,↓qfa,↓qei,↓qdk,↓qds,↓qd9,↓qea,↓qen,↓qeo,↓qdo,↓qdp,↓qdr,↓qdq,↓qdx,↓qep,↓qdv,↓qej,↓qdn,↓qed,↓qek,↓qel,↓qem,↓qd1,↓qd0,↓qd2,↓qd3,↓qd5,↓qdz,↓qd6,↓qd8,↓qd7,↓qdl,↓qdm,↓qdy,↓qaw,↓qdw,↓qee,↓qec,↓qdj,↓qeh,↓qeb,↓qd4,qav,List.drop_zero,Nat.sub_zero,qcy,qct,qcu,qdh,qat,qas,qaf,List.map_cons,List.map_nil,List.zip_cons_cons,List.zip_nil_right,List.zip_nil_left,qau,evs,evp,mkB,repB,blen,qae,qad,qac,qab,qc1,qc0,qdg,qdi,qde,qdf,qcx,qcz,qcv,qcw,↓qdc,↓qdb,↓qdd,↓qah,↓qag,↓qai,↓retQ,res,resAll,resOne,kill,apartOk,exp,injV,injB,pur,purs,purR,pursR,List.set_cons_zero,List.set_cons_succ,List.length_cons,List.length_nil,List.cons_append,List.nil_append,List.append_nil,List.append_assoc,List.length_append,List.reduceReplicate,Nat.reduceAdd,Nat.reduceMul,Nat.reduceSub,Nat.reduceEqDiff,Nat.reduceLT,Nat.zero_add,Nat.add_zero,Nat.mul_one,Int.reduceToNat,Int.toNat_natCast,Int.cast_ofNat_Int,Int.reduceLE,Int.reduceLT,Int.reduceEq,reduceCtorEq,↓reduceIte,Bool.true_eq_false,Bool.false_eq_true,Bool.not_true,Bool.not_false,true_and,and_true,and_assoc,qaj,sub1,qc8,qc7,qc9,List.length_replicate,Nat.le_refl,false_implies,true_implies,ne_eq,not_true_eq_false,not_false_eq_true,decide_true,decide_false,decide_eq_true_eq,decide_eq_false_iff_not,Bool.not_eq_true',Bool.not_eq_false']
    · refine ⟨⟨i + 1, subF X Y, rsub p q, (x - y) % Pp⟩, hK _ ⟨by simp only; omega, e1, f1⟩ (by simp only; omega), Hd.of [0, 1, 2, 3, 4, 10, 6] (by decide) (by decide) (by simp) ?_⟩
      simp only [gc,gcVs,gcV,posOf,gcH,gcB,Option.map_some,Option.map_none,List.replicate_zero,List.drop_zero,↓qax,↓qay,↓qa0,↓qaz,↓qcs,↓qbj,↓qa1,↓qcl,↓qb3,↓qci,↓qcb,↓qce,↓qcf,↓qb4,↓qcd,↓qcj,↓qb5,↓qcg,↓qch,↓qb6,↓qcc,↓qca,↓qb9,↓qb8,↓qb7,↓qa5,↓qbc,↓qa6,↓qbd,↓qa7,↓qbe,↓qa8,↓qbf,↓qa9,↓qbg,↓qba,↓qbh,↓qbb,↓qbi,↓qb2,↓qck,↓qfc,↓qco,↓qcp,↓qcq,↓qcn,↓qcm,↓qbm,↓qbn,↓qb0,↓qbv,↓qbq,↓qbu,↓qbz,↓qbw,↓qby,↓qbx,↓qbr,↓qbp,↓qb1,↓qbs,↓qbt,↓qbo,↓qez,↓qey,↓qe3,↓qe5,↓qe4,↓qex,↓qew,↓qet,↓qeu,↓qe2,↓qe1,↓qe0,qc5,↓qeq,↓qer,↓qev,↓qc4,↓qc2,↓qc3,↓qe7,↓qe8,↓qe9,↓qe6,qaa,↓qes,↓qef,↓qeg,↓qfb,↓qfa,↓qei,↓qdk,↓qds,↓qd9,↓qea,↓qen,↓qeo,↓qdo,↓qdp,↓qdr,↓qdq,↓qdx,↓qep,↓qdv,↓qej,↓qdn,↓qed,↓qek,↓qel,↓qem,↓qd1,↓qd0,↓qd2,↓qd3,↓qd5,↓qdz,↓qd6,↓qd8,↓qd7,↓qdl,↓qdm,↓qdy,↓qaw,↓qdw,↓qee,↓qec,↓qdj,↓qeh,↓qeb,↓qd4,qav,List.drop_zero,Nat.sub_zero,qcy,qct,qcu,qdh,qat,qas,qaf,List.map_cons,List.map_nil,List.zip_cons_cons,List.zip_nil_right,List.zip_nil_left,qau,evs,evp,mkB,repB,blen,qae,qad,qac,qab,qc1,qc0,qdg,qdi,qde,qdf,qcx,qcz,qcv,qcw,↓qdc,↓qdb,↓qdd,↓qah,↓qag,↓qai,↓retQ,res,resAll,resOne,kill,apartOk,exp,injV,injB,pur,purs,purR,pursR,List.set_cons_zero,List.set_cons_succ,List.length_cons,List.length_nil,List.cons_append,List.nil_append,List.append_nil,List.append_assoc,List.length_append,List.reduceReplicate,Nat.reduceAdd,Nat.reduceMul,Nat.reduceSub,Nat.reduceEqDiff,Nat.reduceLT,Nat.zero_add,Nat.add_zero,Nat.mul_one,Int.reduceToNat,Int.toNat_natCast,Int.cast_ofNat_Int,Int.reduceLE,Int.reduceLT,Int.reduceEq,reduceCtorEq,↓reduceIte,Bool.true_eq_false,Bool.false_eq_true,Bool.not_true,Bool.not_false,true_and,and_true,and_assoc,qaj,sub1,qc8,qc7,qc9,List.length_replicate,Nat.le_refl,false_implies,true_implies,ne_eq,not_true_eq_false,not_false_eq_true,decide_true,decide_false,decide_eq_true_eq,decide_eq_false_iff_not,Bool.not_eq_true',Bool.not_eq_false']
    · refine ⟨⟨i + 1, subF Y X, rsub q p, (y - x) % Pp⟩, hK _ ⟨by simp only; omega, e2, f2⟩ (by simp only; omega), Hd.of [0, 1, 2, 3, 4, 10, 6] (by decide) (by decide) (by simp) ?_⟩
      simp only [gc,gcVs,gcV,posOf,gcH,gcB,Option.map_some,Option.map_none,List.replicate_zero,List.drop_zero,↓qax,↓qay,↓qa0,↓qaz,↓qcs,↓qbj,↓qa1,↓qcl,↓qb3,↓qci,↓qcb,↓qce,↓qcf,↓qb4,↓qcd,↓qcj,↓qb5,↓qcg,↓qch,↓qb6,↓qcc,↓qca,↓qb9,↓qb8,↓qb7,↓qa5,↓qbc,↓qa6,↓qbd,↓qa7,↓qbe,↓qa8,↓qbf,↓qa9,↓qbg,↓qba,↓qbh,↓qbb,↓qbi,↓qb2,↓qck,↓qfc,↓qco,↓qcp,↓qcq,↓qcn,↓qcm,↓qbm,↓qbn,↓qb0,↓qbv,↓qbq,↓qbu,↓qbz,↓qbw,↓qby,↓qbx,↓qbr,↓qbp,↓qb1,↓qbs,↓qbt,↓qbo,↓qez,↓qey,↓qe3,↓qe5,↓qe4,↓qex,↓qew,↓qet,↓qeu,↓qe2,↓qe1,↓qe0,qc5,↓qeq,↓qer,↓qev,↓qc4,↓qc2,↓qc3,↓qe7,↓qe8,↓qe9,↓qe6,qaa,↓qes,↓qef,↓qeg,↓qfb,↓qfa,↓qei,↓qdk,↓qds,↓qd9,↓qea,↓qen,↓qeo,↓qdo,↓qdp,↓qdr,↓qdq,↓qdx,↓qep,↓qdv,↓qej,↓qdn,↓qed,↓qek,↓qel,↓qem,↓qd1,↓qd0,↓qd2,↓qd3,↓qd5,↓qdz,↓qd6,↓qd8,↓qd7,↓qdl,↓qdm,↓qdy,↓qaw,↓qdw,↓qee,↓qec,↓qdj,↓qeh,↓qeb,↓qd4,qav,List.drop_zero,Nat.sub_zero,qcy,qct,qcu,qdh,qat,qas,qaf,List.map_cons,List.map_nil,List.zip_cons_cons,List.zip_nil_right,List.zip_nil_left,qau,evs,evp,mkB,repB,blen,qae,qad,qac,qab,qc1,qc0,qdg,qdi,qde,qdf,qcx,qcz,qcv,qcw,↓qdc,↓qdb,↓qdd,↓qah,↓qag,↓qai,↓retQ,res,resAll,resOne,kill,apartOk,exp,injV,injB,pur,purs,purR,pursR,List.set_cons_zero,List.set_cons_succ,List.length_cons,List.length_nil,List.cons_append,List.nil_append,List.append_nil,List.append_assoc,List.length_append,List.reduceReplicate,Nat.reduceAdd,Nat.reduceMul,Nat.reduceSub,Nat.reduceEqDiff,Nat.reduceLT,Nat.zero_add,Nat.add_zero,Nat.mul_one,Int.reduceToNat,Int.toNat_natCast,Int.cast_ofNat_Int,Int.reduceLE,Int.reduceLT,Int.reduceEq,reduceCtorEq,↓reduceIte,Bool.true_eq_false,Bool.false_eq_true,Bool.not_true,Bool.not_false,true_and,and_true,and_assoc,qaj,sub1,qc8,qc7,qc9,List.length_replicate,Nat.le_refl,false_implies,true_implies,ne_eq,not_true_eq_false,not_false_eq_true,decide_true,decide_false,decide_eq_true_eq,decide_eq_false_iff_not,Bool.not_eq_true',Bool.not_eq_false']
    · refine ⟨⟨i + 1, mulF X X, rmul p p, (x * x) % Pp⟩, hK _ ⟨by simp only; omega, e3, f3⟩ (by simp only; omega), Hd.of [0, 1, 2, 3, 4, 10, 6] (by decide) (by decide) (by simp) ?_⟩
      simp only [gc,gcVs,gcV,posOf,gcH,gcB,Option.map_some,Option.map_none,List.replicate_zero,List.drop_zero,↓qax,↓qay,↓qa0,↓qaz,↓qcs,↓qbj,↓qa1,↓qcl,↓qb3,↓qci,↓qcb,↓qce,↓qcf,↓qb4,↓qcd,↓qcj,↓qb5,↓qcg,↓qch,↓qb6,↓qcc,↓qca,↓qb9,↓qb8,↓qb7,↓qa5,↓qbc,↓qa6,↓qbd,↓qa7,↓qbe,↓qa8,↓qbf,↓qa9,↓qbg,↓qba,↓qbh,↓qbb,↓qbi,↓qb2,↓qck,↓qfc,↓qco,↓qcp,↓qcq,↓qcn,↓qcm,↓qbm,↓qbn,↓qb0,↓qbv,↓qbq,↓qbu,↓qbz,↓qbw,↓qby,↓qbx,↓qbr,↓qbp,↓qb1,↓qbs,↓qbt,↓qbo,↓qez,↓qey,↓qe3,↓qe5,↓qe4,↓qex,↓qew,↓qet,↓qeu,↓qe2,↓qe1,↓qe0,qc5,↓qeq,↓qer,↓qev,↓qc4,↓qc2,↓qc3,↓qe7,↓qe8,↓qe9,↓qe6,qaa,↓qes,↓qef,↓qeg,↓qfb,↓qfa,↓qei,↓qdk,↓qds,↓qd9,↓qea,↓qen,↓qeo,↓qdo,↓qdp,↓qdr,↓qdq,↓qdx,↓qep,↓qdv,↓qej,↓qdn,↓qed,↓qek,↓qel,↓qem,↓qd1,↓qd0,↓qd2,↓qd3,↓qd5,↓qdz,↓qd6,↓qd8,↓qd7,↓qdl,↓qdm,↓qdy,↓qaw,↓qdw,↓qee,↓qec,↓qdj,↓qeh,↓qeb,↓qd4,qav,List.drop_zero,Nat.sub_zero,qcy,qct,qcu,qdh,qat,qas,qaf,List.map_cons,List.map_nil,List.zip_cons_cons,List.zip_nil_right,List.zip_nil_left,qau,evs,evp,mkB,repB,blen,qae,qad,qac,qab,qc1,qc0,qdg,qdi,qde,qdf,qcx,qcz,qcv,qcw,↓qdc,↓qdb,↓qdd,↓qah,↓qag,↓qai,↓retQ,res,resAll,resOne,kill,apartOk,exp,injV,injB,pur,purs,purR,pursR,List.set_cons_zero,List.set_cons_succ,List.length_cons,List.length_nil,List.cons_append,List.nil_append,List.append_nil,List.append_assoc,List.length_append,List.reduceReplicate,Nat.reduceAdd,Nat.reduceMul,Nat.reduceSub,Nat.reduceEqDiff,Nat.reduceLT,Nat.zero_add,Nat.add_zero,Nat.mul_one,Int.reduceToNat,Int.toNat_natCast,Int.cast_ofNat_Int,Int.reduceLE,Int.reduceLT,Int.reduceEq,reduceCtorEq,↓reduceIte,Bool.true_eq_false,Bool.false_eq_true,Bool.not_true,Bool.not_false,true_and,and_true,and_assoc,qaj,sub1,qc8,qc7,qc9,List.length_replicate,Nat.le_refl,false_implies,true_implies,ne_eq,not_true_eq_false,not_false_eq_true,decide_true,decide_false,decide_eq_true_eq,decide_eq_false_iff_not,Bool.not_eq_true',Bool.not_eq_false']
    · refine ⟨⟨i + 1, mulF X Y, rmul p q, (x * y) % Pp⟩, hK _ ⟨by simp only; omega, e4, f4⟩ (by simp only; omega), Hd.of [0, 1, 2, 3, 4, 10, 6] (by decide) (by decide) (by simp) ?_⟩
      simp only [gc,gcVs,gcV,posOf,gcH,gcB,Option.map_some,Option.map_none,List.replicate_zero,List.drop_zero,↓qax,↓qay,↓qa0,↓qaz,↓qcs,↓qbj,↓qa1,↓qcl,↓qb3,↓qci,↓qcb,↓qce,↓qcf,↓qb4,↓qcd,↓qcj,↓qb5,↓qcg,↓qch,↓qb6,↓qcc,↓qca,↓qb9,↓qb8,↓qb7,↓qa5,↓qbc,↓qa6,↓qbd,↓qa7,↓qbe,↓qa8,↓qbf,↓qa9,↓qbg,↓qba,↓qbh,↓qbb,↓qbi,↓qb2,↓qck,↓qfc,↓qco,↓qcp,↓qcq,↓qcn,↓qcm,↓qbm,↓qbn,↓qb0,↓qbv,↓qbq,↓qbu,↓qbz,↓qbw,↓qby,↓qbx,↓qbr,↓qbp,↓qb1,↓qbs,↓qbt,↓qbo,↓qez,↓qey,↓qe3,↓qe5,↓qe4,↓qex,↓qew,↓qet,↓qeu,↓qe2,↓qe1,↓qe0,qc5,↓qeq,↓qer,↓qev,↓qc4,↓qc2,↓qc3,↓qe7,↓qe8,↓qe9,↓qe6,qaa,↓qes,↓qef,↓qeg,↓qfb,↓qfa,↓qei,↓qdk,↓qds,↓qd9,↓qea,↓qen,↓qeo,↓qdo,↓qdp,↓qdr,↓qdq,↓qdx,↓qep,↓qdv,↓qej,↓qdn,↓qed,↓qek,↓qel,↓qem,↓qd1,↓qd0,↓qd2,↓qd3,↓qd5,↓qdz,↓qd6,↓qd8,↓qd7,↓qdl,↓qdm,↓qdy,↓qaw,↓qdw,↓qee,↓qec,↓qdj,↓qeh,↓qeb,↓qd4,qav,List.drop_zero,Nat.sub_zero,qcy,qct,qcu,qdh,qat,qas,qaf,List.map_cons,List.map_nil,List.zip_cons_cons,List.zip_nil_right,List.zip_nil_left,qau,evs,evp,mkB,repB,blen,qae,qad,qac,qab,qc1,qc0,qdg,qdi,qde,qdf,qcx,qcz,qcv,qcw,↓qdc,↓qdb,↓qdd,↓qah,↓qag,↓qai,↓retQ,res,resAll,resOne,kill,apartOk,exp,injV,injB,pur,purs,purR,pursR,List.set_cons_zero,List.set_cons_succ,List.length_cons,List.length_nil,List.cons_append,List.nil_append,List.append_nil,List.append_assoc,List.length_append,List.reduceReplicate,Nat.reduceAdd,Nat.reduceMul,Nat.reduceSub,Nat.reduceEqDiff,Nat.reduceLT,Nat.zero_add,Nat.add_zero,Nat.mul_one,Int.reduceToNat,Int.toNat_natCast,Int.cast_ofNat_Int,Int.reduceLE,Int.reduceLT,Int.reduceEq,reduceCtorEq,↓reduceIte,Bool.true_eq_false,Bool.false_eq_true,Bool.not_true,Bool.not_false,true_and,and_true,and_assoc,qaj,sub1,qc8,qc7,qc9,List.length_replicate,Nat.le_refl,false_implies,true_implies,ne_eq,not_true_eq_false,not_false_eq_true,decide_true,decide_false,decide_eq_true_eq,decide_eq_false_iff_not,Bool.not_eq_true',Bool.not_eq_false']
  have q1 := hX.p1
  have q2 := hp.pk
  have b1 : bytesF X = dig 256 32 (val 65536 p) := by rw [hX.bytes, hp.is]
  simp only [s23, s24, s25, s38, s41, s42, s43, s39, s44, s27, s30]
  by_cases hil : i < ks.length
  · have c1 : (i : Int) < (ks.length : Int) := by omega
    have c2 : (60 : Int) < (i : Int) := by omega
    simp only [c1,c2,hil,hXl,sX,q1,q2,b1,eq_self,s27,s30,F27,F30,qda,qc6,qaj,List.length_cons,List.length_nil,Nat.reduceAdd,Nat.le_refl,Nat.reduceLeDiff,Nat.reduceLT,true_and,and_true,↓qax,↓qay,↓qa0,↓qaz,↓qcs,↓qbj,↓qa1,↓qcl,↓qb3,↓qci,↓qcb,↓qce,↓qcf,↓qb4,↓qcd,↓qcj,↓qb5,↓qcg,↓qch,↓qb6,↓qcc,↓qca,↓qb9,↓qb8,↓qb7,↓qa5,↓qbc,↓qa6,↓qbd,↓qa7,↓qbe,↓qa8,↓qbf,↓qa9,↓qbg,↓qba,↓qbh,↓qbb,↓qbi,↓qb2,↓qck,↓qfc,↓qco,↓qcp,↓qcq,↓qcn,↓qcm,↓qbm,↓qbn,↓qb0,↓qbv,↓qbq,↓qbu,↓qbz,↓qbw,↓qby,↓qbx,↓qbr,↓qbp,↓qb1,↓qbs,↓qbt,↓qbo,↓qez,↓qey,↓qe3,↓qe5,↓qe4,↓qex,↓qew,↓qet,↓qeu,↓qe2,↓qe1,↓qe0,qc5,↓qeq,↓qer,↓qev,↓qc4,↓qc2,↓qc3,↓qe7,↓qe8,↓qe9,↓qe6,qaa,↓qes,↓qef,↓qeg,↓qfb,↓qfa,↓qei,↓qdk,↓qds,↓qd9,↓qea,↓qen,↓qeo,↓qdo,↓qdp,↓qdr,↓qdq,↓qdx,↓qep,↓qdv,↓qej,↓qdn,↓qed,↓qek,↓qel,↓qem,↓qd1,↓qd0,↓qd2,↓qd3,↓qd5,↓qdz,↓qd6,↓qd8,↓qd7,↓qdl,↓qdm,↓qdy,↓qaw,↓qdw,↓qee,↓qec,↓qdj,↓qeh,↓qeb,↓qd4,qav,List.drop_zero,Nat.sub_zero,qcy,qct,qcu,qdh,qat,qas,qaf,List.map_cons,List.map_nil,List.zip_cons_cons,List.zip_nil_right,List.zip_nil_left,qau,evs,evp,mkB,repB,blen,qae,qad,qac,qab,qc1,qc0,qdg,qdi,qde,qdf,qcx,qcz,qcv,qcw,↓qdc,↓qdb,↓qdd,↓qah,↓qag,↓qai,↓retQ,res,resAll,resOne,kill,apartOk,exp,injV,injB,pur,purs,purR,pursR,List.set_cons_zero,List.set_cons_succ,List.length_cons,List.length_nil,List.cons_append,List.nil_append,List.append_nil,List.append_assoc,List.length_append,List.reduceReplicate,Nat.reduceAdd,Nat.reduceMul,Nat.reduceSub,Nat.reduceEqDiff,Nat.reduceLT,Nat.zero_add,Nat.add_zero,Nat.mul_one,Int.reduceToNat,Int.toNat_natCast,Int.cast_ofNat_Int,Int.reduceLE,Int.reduceLT,Int.reduceEq,reduceCtorEq,↓reduceIte,Bool.true_eq_false,Bool.false_eq_true,Bool.not_true,Bool.not_false,true_and,and_true,and_assoc,qaj,sub1,qc8,qc7,qc9,List.length_replicate,Nat.le_refl,false_implies,true_implies,ne_eq,not_true_eq_false,not_false_eq_true,decide_true,decide_false,decide_eq_true_eq,decide_eq_false_iff_not,Bool.not_eq_true',Bool.not_eq_false']
    repeat (refine And.intro (by omega) ?_)
    simp only [out, outs, out1, pur, and_self]
  · have c1 : ¬ (i : Int) < (ks.length : Int) := by omega
    simp only [c1,hXl,sX,q1,q2,b1,eq_self,s27,s30,F27,F30,qda,qc6,qaj,List.length_cons,List.length_nil,Nat.reduceAdd,Nat.le_refl,Nat.reduceLeDiff,Nat.reduceLT,true_and,and_true,↓qax,↓qay,↓qa0,↓qaz,↓qcs,↓qbj,↓qa1,↓qcl,↓qb3,↓qci,↓qcb,↓qce,↓qcf,↓qb4,↓qcd,↓qcj,↓qb5,↓qcg,↓qch,↓qb6,↓qcc,↓qca,↓qb9,↓qb8,↓qb7,↓qa5,↓qbc,↓qa6,↓qbd,↓qa7,↓qbe,↓qa8,↓qbf,↓qa9,↓qbg,↓qba,↓qbh,↓qbb,↓qbi,↓qb2,↓qck,↓qfc,↓qco,↓qcp,↓qcq,↓qcn,↓qcm,↓qbm,↓qbn,↓qb0,↓qbv,↓qbq,↓qbu,↓qbz,↓qbw,↓qby,↓qbx,↓qbr,↓qbp,↓qb1,↓qbs,↓qbt,↓qbo,↓qez,↓qey,↓qe3,↓qe5,↓qe4,↓qex,↓qew,↓qet,↓qeu,↓qe2,↓qe1,↓qe0,qc5,↓qeq,↓qer,↓qev,↓qc4,↓qc2,↓qc3,↓qe7,↓qe8,↓qe9,↓qe6,qaa,↓qes,↓qef,↓qeg,↓qfb,↓qfa,↓qei,↓qdk,↓qds,↓qd9,↓qea,↓qen,↓qeo,↓qdo,↓qdp,↓qdr,↓qdq,↓qdx,↓qep,↓qdv,↓qej,↓qdn,↓qed,↓qek,↓qel,↓qem,↓qd1,↓qd0,↓qd2,↓qd3,↓qd5,↓qdz,↓qd6,↓qd8,↓qd7,↓qdl,↓qdm,↓qdy,↓qaw,↓qdw,↓qee,↓qec,↓qdj,↓qeh,↓qeb,↓qd4,qav,List.drop_zero,Nat.sub_zero,qcy,qct,qcu,qdh,qat,qas,qaf,List.map_cons,List.map_nil,List.zip_cons_cons,List.zip_nil_right,List.zip_nil_left,qau,evs,evp,mkB,repB,blen,qae,qad,qac,qab,qc1,qc0,qdg,qdi,qde,qdf,qcx,qcz,qcv,qcw,↓qdc,↓qdb,↓qdd,↓qah,↓qag,↓qai,↓retQ,res,resAll,resOne,kill,apartOk,exp,injV,injB,pur,purs,purR,pursR,List.set_cons_zero,List.set_cons_succ,List.length_cons,List.length_nil,List.cons_append,List.nil_append,List.append_nil,List.append_assoc,List.length_append,List.reduceReplicate,Nat.reduceAdd,Nat.reduceMul,Nat.reduceSub,Nat.reduceEqDiff,Nat.reduceLT,Nat.zero_add,Nat.add_zero,Nat.mul_one,Int.reduceToNat,Int.toNat_natCast,Int.cast_ofNat_Int,Int.reduceLE,Int.reduceLT,Int.reduceEq,reduceCtorEq,↓reduceIte,Bool.true_eq_false,Bool.false_eq_true,Bool.not_true,Bool.not_false,true_and,and_true,and_assoc,qaj,sub1,qc8,qc7,qc9,List.length_replicate,Nat.le_refl,false_implies,true_implies,ne_eq,not_true_eq_false,not_false_eq_true,decide_true,decide_false,decide_eq_true_eq,decide_eq_false_iff_not,Bool.not_eq_true',Bool.not_eq_false']
    repeat (refine And.intro (by omega) ?_)
    simp only [out, outs, out1, pur, and_self]
end Am
