/-
Working texts: contracts of functions, and the numbers behind them.
-/
import Derived.Test.YtkchoojcficjgaaFlA
import Derived.Test.YtkchoojcficjgaaAmNum
set_option linter.unusedSimpArgs false
set_option linter.unusedVariables false
set_option linter.unusedSectionVars false
set_option linter.unusedSimpArgs false
set_option linter.unusedVariables false
set_option maxRecDepth 20000
namespace Am
open Go.Proofs
/-! ### Powers as powers -/
theorem pow_mod_mul {x a b : Int} {i j : Nat} (ha : a = x ^ i % Pp) (hb : b = x ^ j % Pp) : a * b % Pp = x ^ (i + j) % Pp := by
  rw [ha, hb, ← Int.mul_emod, ← Int.pow_add]
theorem pwv_pow {x : Int} {V : Nat} : ∀ (n : Nat), pwv (x % Pp) (V : Int) n (x ^ (V / 2 ^ n) % Pp) = x ^ V % Pp
  | 0 => by rw [pwv]; simp
  | n + 1 => by
    have e : V / 2 ^ n = V / 2 ^ (n + 1) * 2 + V / 2 ^ n % 2 := by
      have : V / 2 ^ (n + 1) = V / 2 ^ n / 2 := by rw [Nat.pow_succ, Nat.div_div_eq_div_mul]
      rw [this]; omega
    have hb : ((V : Int) / 2 ^ n % 2 = 1) ↔ V / 2 ^ n % 2 = 1 := by
      have : (V : Int) / 2 ^ n % 2 = ((V / 2 ^ n % 2 : Nat) : Int) := by
        rw [Int.natCast_emod, Int.natCast_ediv, Int.natCast_pow]; rfl
      rw [this]; omega
    rw [pwv]
    have hs := pow_mod_mul (x := x) (i := V / 2 ^ (n + 1)) (j := V / 2 ^ (n + 1)) rfl rfl
    rw [hs]
    by_cases h : V / 2 ^ n % 2 = 1
    · rw [if_pos (hb.2 h)]
      have h1 : x % Pp = x ^ 1 % Pp := by rw [Int.pow_one]
      conv => lhs; arg 4; rw [h1]
      rw [← Int.mul_emod, ← Int.pow_add]
      have e2 : V / 2 ^ (n + 1) + V / 2 ^ (n + 1) + 1 = V / 2 ^ n := by omega
      rw [e2]
      exact pwv_pow n
    · rw [if_neg (fun q => h (hb.1 q))]
      have e2 : V / 2 ^ (n + 1) + V / 2 ^ (n + 1) = V / 2 ^ n := by omega
      rw [e2]
      exact pwv_pow n
theorem pw_pow {x : Int} {V : Nat} (h0 : 0 ≤ x) (h1 : x < Pp) (hV : V < 2 ^ 256) : pw x (V : Int) = x ^ V % Pp := by
  have := pwv_pow (x := x) (V := V) 256
  rw [Nat.div_eq_of_lt hV, Int.pow_zero, Int.emod_eq_of_lt h0 h1] at this
  exact this
/-! ### FieldOften -/
def preOften (ds : List D) : Prop := ∃ (a : List Int) (n m : Int), ds = [.v (.ints .u8 a), .v (.int .u8 n), .v (.int .u8 m)] ∧ Key a ∧ (0 ≤ n ∧ n < 256) ∧ (0 ≤ m ∧ m < 256)
theorem lawFieldOften : ∀ ds, preOften ds → Does Try.prog gl 6 (injV ds 4) (gl ++ injB true ds) (out (4 + (injB true ds).length) (FTrue ds)) := by
  refine fdoesA (l := [(23, s23), (24, s24), (38, s38), (36, s36), (39, s39), (34, s34), (26, s26)]) mixed gl_plain rfl Try.func6 comp6 compR6 nt6 (by simp only [List.mem_cons, List.not_mem_nil, or_false, forall_eq_or_imp, forall_eq]; exact ⟨ok23, ok24, ok38, ok36, ok39, ok34, ok26⟩) fun ds ⟨a, n, m, hd, ha, hn, hm⟩ hA => ?_
  subst hd
  have hal := ha.1
  have sa : sub a 0 32 = a := qda hal
  have hX := xo_el ha
  obtain ⟨X, hXX⟩ : ∃ X, xo a = X := ⟨_, rfl⟩
  have hXX' : dig 2251799813685248 5 (val 256 a) = X := hXX
  rw [hXX] at hX
  obtain ⟨x, hx⟩ : ∃ x, kv a = x := ⟨_, rfl⟩
  rw [hx] at hX
  have hXl := hX.len
  have sX : sub X 0 5 = X := qda hXl
  have spX : spl [0, 0, 0, 0, 0] 0 X = X := qc6 (by simp [hXl])
  have k1 := ha.p1
  have pA : pre23 [] := rfl
  obtain ⟨q, hq, q0, q1⟩ : ∃ q : Nat, n.tmod 40 = (q : Int) ∧ 0 ≤ q ∧ q < 40 := by
    refine ⟨(n % 40).toNat, ?_, by omega, by omega⟩
    rw [Int.tmod_eq_emod_of_nonneg hn.1]; omega
  obtain ⟨n, rfl⟩ := Int.eq_ofNat_of_zero_le hn.1
  obtain ⟨m, rfl⟩ := Int.eq_ofNat_of_zero_le hm.1
  simp only [s23, s24, s38, s36, s39, s34, s26]
  simp only [ir6,rs6,gl,FTrue,hal,sa,hXX',hXl,sX,spX,k1,pA,hq,s23,s24,F23,F24,qda,qc6,qaj,List.length_cons,List.length_nil,Nat.reduceAdd,Nat.le_refl,Nat.reduceLeDiff,Nat.reduceLT,true_and,and_true,↓qax,↓qay,↓qa0,↓qaz,↓qcs,↓qbj,↓qa1,↓qcl,↓qb3,↓qci,↓qcb,↓qce,↓qcf,↓qb4,↓qcd,↓qcj,↓qb5,↓qcg,↓qch,↓qb6,↓qcc,↓qca,↓qb9,↓qb8,↓qb7,↓qa5,↓qbc,↓qa6,↓qbd,↓qa7,↓qbe,↓qa8,↓qbf,↓qa9,↓qbg,↓qba,↓qbh,↓qbb,↓qbi,↓qb2,↓qck,↓qfc,↓qco,↓qcp,↓qcq,↓qcn,↓qcm,↓qbm,↓qbn,↓qb0,↓qbv,↓qbq,↓qbu,↓qbz,↓qbw,↓qby,↓qbx,↓qbr,↓qbp,↓qb1,↓qbs,↓qbt,↓qbo,↓qez,↓qey,↓qe3,↓qe5,↓qe4,↓qex,↓qew,↓qet,↓qeu,↓qe2,↓qe1,↓qe0,qc5,↓qeq,↓qer,↓qev,↓qc4,↓qc2,↓qc3,↓qe7,↓qe8,↓qe9,↓qe6,qaa,↓qes,↓qef,↓qeg,↓qfb,↓qfa,↓qei,↓qdk,↓qds,↓qd9,↓qea,↓qen,↓qeo,↓qdo,↓qdp,↓qdr,↓qdq,↓qdx,↓qep,↓qdv,↓qej,↓qdn,↓qed,↓qek,↓qel,↓qem,↓qd1,↓qd0,↓qd2,↓qd3,↓qd5,↓qdz,↓qd6,↓qd8,↓qd7,↓qdl,↓qdm,↓qdy,↓qaw,↓qdw,↓qee,↓qec,↓qdj,↓qeh,↓qeb,↓qd4,qav,List.drop_zero,Nat.sub_zero,qcy,qct,qcu,qdh,qat,qas,qaf,List.map_cons,List.map_nil,List.zip_cons_cons,List.zip_nil_right,List.zip_nil_left,qau,evs,evp,mkB,repB,blen,qae,qad,qac,qab,qc1,qc0,qdg,qdi,qde,qdf,qcx,qcz,qcv,qcw,↓qdc,↓qdb,↓qdd,↓qah,↓qag,↓qai,↓retQ,res,resAll,resOne,kill,apartOk,exp,injV,injB,pur,purs,purR,pursR,List.set_cons_zero,List.set_cons_succ,List.length_cons,List.length_nil,List.cons_append,List.nil_append,List.append_nil,List.append_assoc,List.length_append,List.reduceReplicate,Nat.reduceAdd,Nat.reduceMul,Nat.reduceSub,Nat.reduceEqDiff,Nat.reduceLT,Nat.zero_add,Nat.add_zero,Nat.mul_one,Int.reduceToNat,Int.toNat_natCast,Int.cast_ofNat_Int,Int.reduceLE,Int.reduceLT,Int.reduceEq,reduceCtorEq,↓reduceIte,Bool.true_eq_false,Bool.false_eq_true,Bool.not_true,Bool.not_false,true_and,and_true,and_assoc,qaj,sub1,qc8,qc7,qc9,List.length_replicate,Nat.le_refl,false_implies,true_implies,ne_eq,not_true_eq_false,not_false_eq_true,decide_true,decide_false,decide_eq_true_eq,decide_eq_false_iff_not,Bool.not_eq_true',Bool.not_eq_false']
  refine awp_loopA (n := 55) hA [1, 2, 7, 8, 15, 16] (by decide +kernel) (fun s : Nat × List Int => [.int .u8 n, .int .u8 m, .ptr 5 0, .ptr 6 0, .int .u8 q, .int .u8 s.1])
    (fun s => [.dead, .dead, .dead, .dead, .ints false .u8 a, .ints false .u64 X, .ints false .u64 s.2]) (fun s => s.1 ≤ q ∧ El s.2 ((s.1 : Int) * x % Pp)) (fun s => q - s.1) (0, [0, 0, 0, 0, 0]) ?_ ⟨by simp, ?_⟩ ?_
  · refine Hd.same ?_
    simp only [↓qax,↓qay,↓qa0,↓qaz,↓qcs,↓qbj,↓qa1,↓qcl,↓qb3,↓qci,↓qcb,↓qce,↓qcf,↓qb4,↓qcd,↓qcj,↓qb5,↓qcg,↓qch,↓qb6,↓qcc,↓qca,↓qb9,↓qb8,↓qb7,↓qa5,↓qbc,↓qa6,↓qbd,↓qa7,↓qbe,↓qa8,↓qbf,↓qa9,↓qbg,↓qba,↓qbh,↓qbb,↓qbi,↓qb2,↓qck,↓qfc,↓qco,↓qcp,↓qcq,↓qcn,↓qcm,↓qbm,↓qbn,↓qb0,↓qbv,↓qbq,↓qbu,↓qbz,↓qbw,↓qby,↓qbx,↓qbr,↓qbp,↓qb1,↓qbs,↓qbt,↓qbo,↓qez,↓qey,↓qe3,↓qe5,↓qe4,↓qex,↓qew,↓qet,↓qeu,↓qe2,↓qe1,↓qe0,qc5,↓qeq,↓qer,↓qev,↓qc4,↓qc2,↓qc3,↓qe7,↓qe8,↓qe9,↓qe6,qaa,↓qes,↓qef,↓qeg,↓qfb,↓qfa,↓qei,↓qdk,↓qds,↓qd9,↓qea,↓qen,↓qeo,↓qdo,↓qdp,↓qdr,↓qdq,↓qdx,↓qep,↓qdv,↓qej,↓qdn,↓qed,↓qek,↓qel,↓qem,↓qd1,↓qd0,↓qd2,↓qd3,↓qd5,↓qdz,↓qd6,↓qd8,↓qd7,↓qdl,↓qdm,↓qdy,↓qaw,↓qdw,↓qee,↓qec,↓qdj,↓qeh,↓qeb,↓qd4,qav,List.drop_zero,Nat.sub_zero,qcy,qct,qcu,qdh,qat,qas,qaf,List.map_cons,List.map_nil,List.zip_cons_cons,List.zip_nil_right,List.zip_nil_left,qau,evs,evp,mkB,repB,blen,qae,qad,qac,qab,qc1,qc0,qdg,qdi,qde,qdf,qcx,qcz,qcv,qcw,↓qdc,↓qdb,↓qdd,↓qah,↓qag,↓qai,↓retQ,res,resAll,resOne,kill,apartOk,exp,injV,injB,pur,purs,purR,pursR,List.set_cons_zero,List.set_cons_succ,List.length_cons,List.length_nil,List.cons_append,List.nil_append,List.append_nil,List.append_assoc,List.length_append,List.reduceReplicate,Nat.reduceAdd,Nat.reduceMul,Nat.reduceSub,Nat.reduceEqDiff,Nat.reduceLT,Nat.zero_add,Nat.add_zero,Nat.mul_one,Int.reduceToNat,Int.toNat_natCast,Int.cast_ofNat_Int,Int.reduceLE,Int.reduceLT,Int.reduceEq,reduceCtorEq,↓reduceIte,Bool.true_eq_false,Bool.false_eq_true,Bool.not_true,Bool.not_false,true_and,and_true,and_assoc,qaj,sub1,qc8,qc7,qc9,List.length_replicate,Nat.le_refl,false_implies,true_implies,ne_eq,not_true_eq_false,not_false_eq_true,decide_true,decide_false,decide_eq_true_eq,decide_eq_false_iff_not,Bool.not_eq_true',Bool.not_eq_false']
  · simp only
    rw [show ((0 : Nat) : Int) * x % Pp = 0 by simp]
    exact small_el (by decide) (by decide)
  rintro ⟨k, S⟩ ⟨hk, hS⟩ K hK
  simp only at hk hS hK
  have hSl := hS.len
  have sS : sub S 0 5 = S := qda hSl
  by_cases hlt : k < q
  · have c1 : (k : Int) < (q : Int) := by omega
    have wk : Go.IntKind.u8.wrap ((k : Int) + 1) = ((k + 1 : Nat) : Int) := by rw [wrap_u8]; omega
    have p1 := hS.p2 hX
    have e1 := add_el hS hX
    have hv : ((k : Int) * x % Pp + x) % Pp = ((k + 1 : Nat) : Int) * x % Pp := by
      rw [Int.emod_add_emod]
      congr 1
      rw [Int.natCast_add, Int.add_mul]
      simp
    rw [hv] at e1
    have hl2 := e1.len
    have sp2 : spl S 0 (addF S X) = addF S X := qc6 (by omega)
    simp only [s38]
    simp only [c1,wk,hSl,hXl,sS,sX,p1,sp2,hl2,s38,F38,qda,qc6,qaj,List.length_cons,List.length_nil,Nat.reduceAdd,Nat.le_refl,Nat.reduceLeDiff,Nat.reduceLT,true_and,and_true,↓qax,↓qay,↓qa0,↓qaz,↓qcs,↓qbj,↓qa1,↓qcl,↓qb3,↓qci,↓qcb,↓qce,↓qcf,↓qb4,↓qcd,↓qcj,↓qb5,↓qcg,↓qch,↓qb6,↓qcc,↓qca,↓qb9,↓qb8,↓qb7,↓qa5,↓qbc,↓qa6,↓qbd,↓qa7,↓qbe,↓qa8,↓qbf,↓qa9,↓qbg,↓qba,↓qbh,↓qbb,↓qbi,↓qb2,↓qck,↓qfc,↓qco,↓qcp,↓qcq,↓qcn,↓qcm,↓qbm,↓qbn,↓qb0,↓qbv,↓qbq,↓qbu,↓qbz,↓qbw,↓qby,↓qbx,↓qbr,↓qbp,↓qb1,↓qbs,↓qbt,↓qbo,↓qez,↓qey,↓qe3,↓qe5,↓qe4,↓qex,↓qew,↓qet,↓qeu,↓qe2,↓qe1,↓qe0,qc5,↓qeq,↓qer,↓qev,↓qc4,↓qc2,↓qc3,↓qe7,↓qe8,↓qe9,↓qe6,qaa,↓qes,↓qef,↓qeg,↓qfb,↓qfa,↓qei,↓qdk,↓qds,↓qd9,↓qea,↓qen,↓qeo,↓qdo,↓qdp,↓qdr,↓qdq,↓qdx,↓qep,↓qdv,↓qej,↓qdn,↓qed,↓qek,↓qel,↓qem,↓qd1,↓qd0,↓qd2,↓qd3,↓qd5,↓qdz,↓qd6,↓qd8,↓qd7,↓qdl,↓qdm,↓qdy,↓qaw,↓qdw,↓qee,↓qec,↓qdj,↓qeh,↓qeb,↓qd4,qav,List.drop_zero,Nat.sub_zero,qcy,qct,qcu,qdh,qat,qas,qaf,List.map_cons,List.map_nil,List.zip_cons_cons,List.zip_nil_right,List.zip_nil_left,qau,evs,evp,mkB,repB,blen,qae,qad,qac,qab,qc1,qc0,qdg,qdi,qde,qdf,qcx,qcz,qcv,qcw,↓qdc,↓qdb,↓qdd,↓qah,↓qag,↓qai,↓retQ,res,resAll,resOne,kill,apartOk,exp,injV,injB,pur,purs,purR,pursR,List.set_cons_zero,List.set_cons_succ,List.length_cons,List.length_nil,List.cons_append,List.nil_append,List.append_nil,List.append_assoc,List.length_append,List.reduceReplicate,Nat.reduceAdd,Nat.reduceMul,Nat.reduceSub,Nat.reduceEqDiff,Nat.reduceLT,Nat.zero_add,Nat.add_zero,Nat.mul_one,Int.reduceToNat,Int.toNat_natCast,Int.cast_ofNat_Int,Int.reduceLE,Int.reduceLT,Int.reduceEq,reduceCtorEq,↓reduceIte,Bool.true_eq_false,Bool.false_eq_true,Bool.not_true,Bool.not_false,true_and,and_true,and_assoc,qaj,sub1,qc8,qc7,qc9,List.length_replicate,Nat.le_refl,false_implies,true_implies,ne_eq,not_true_eq_false,not_false_eq_true,decide_true,decide_false,decide_eq_true_eq,decide_eq_false_iff_not,Bool.not_eq_true',Bool.not_eq_false']
    repeat (refine And.intro (by omega) ?_)
    refine ⟨(k + 1, addF S X), hK _ ⟨by simp only; omega, e1⟩ (by simp only; omega), Hd.same ?_⟩
    simp only [↓qax,↓qay,↓qa0,↓qaz,↓qcs,↓qbj,↓qa1,↓qcl,↓qb3,↓qci,↓qcb,↓qce,↓qcf,↓qb4,↓qcd,↓qcj,↓qb5,↓qcg,↓qch,↓qb6,↓qcc,↓qca,↓qb9,↓qb8,↓qb7,↓qa5,↓qbc,↓qa6,↓qbd,↓qa7,↓qbe,↓qa8,↓qbf,↓qa9,↓qbg,↓qba,↓qbh,↓qbb,↓qbi,↓qb2,↓qck,↓qfc,↓qco,↓qcp,↓qcq,↓qcn,↓qcm,↓qbm,↓qbn,↓qb0,↓qbv,↓qbq,↓qbu,↓qbz,↓qbw,↓qby,↓qbx,↓qbr,↓qbp,↓qb1,↓qbs,↓qbt,↓qbo,↓qez,↓qey,↓qe3,↓qe5,↓qe4,↓qex,↓qew,↓qet,↓qeu,↓qe2,↓qe1,↓qe0,qc5,↓qeq,↓qer,↓qev,↓qc4,↓qc2,↓qc3,↓qe7,↓qe8,↓qe9,↓qe6,qaa,↓qes,↓qef,↓qeg,↓qfb,↓qfa,↓qei,↓qdk,↓qds,↓qd9,↓qea,↓qen,↓qeo,↓qdo,↓qdp,↓qdr,↓qdq,↓qdx,↓qep,↓qdv,↓qej,↓qdn,↓qed,↓qek,↓qel,↓qem,↓qd1,↓qd0,↓qd2,↓qd3,↓qd5,↓qdz,↓qd6,↓qd8,↓qd7,↓qdl,↓qdm,↓qdy,↓qaw,↓qdw,↓qee,↓qec,↓qdj,↓qeh,↓qeb,↓qd4,qav,List.drop_zero,Nat.sub_zero,qcy,qct,qcu,qdh,qat,qas,qaf,List.map_cons,List.map_nil,List.zip_cons_cons,List.zip_nil_right,List.zip_nil_left,qau,evs,evp,mkB,repB,blen,qae,qad,qac,qab,qc1,qc0,qdg,qdi,qde,qdf,qcx,qcz,qcv,qcw,↓qdc,↓qdb,↓qdd,↓qah,↓qag,↓qai,↓retQ,res,resAll,resOne,kill,apartOk,exp,injV,injB,pur,purs,purR,pursR,List.set_cons_zero,List.set_cons_succ,List.length_cons,List.length_nil,List.cons_append,List.nil_append,List.append_nil,List.append_assoc,List.length_append,List.reduceReplicate,Nat.reduceAdd,Nat.reduceMul,Nat.reduceSub,Nat.reduceEqDiff,Nat.reduceLT,Nat.zero_add,Nat.add_zero,Nat.mul_one,Int.reduceToNat,Int.toNat_natCast,Int.cast_ofNat_Int,Int.reduceLE,Int.reduceLT,Int.reduceEq,reduceCtorEq,↓reduceIte,Bool.true_eq_false,Bool.false_eq_true,Bool.not_true,Bool.not_false,true_and,and_true,and_assoc,qaj,sub1,qc8,qc7,qc9,List.length_replicate,Nat.le_refl,false_implies,true_implies,ne_eq,not_true_eq_false,not_false_eq_true,decide_true,decide_false,decide_eq_true_eq,decide_eq_false_iff_not,Bool.not_eq_true',Bool.not_eq_false']
  obtain rfl : k = q := by omega
  have c1 : ¬(k : Int) < (k : Int) := by omega
  have w1 : Go.IntKind.u16.wrap (n : Int) = (n : Int) := by rw [wrap_u16]; omega
  have w2 : Go.IntKind.u16.wrap (m : Int) = (m : Int) := by rw [wrap_u16]; omega
  have w3 : Go.IntKind.u16.wrap ((n : Int) + (m : Int)) = ((n + m : Nat) : Int) := by rw [wrap_u16]; omega
  have w4 : Go.IntKind.u32.wrap (k : Int) = (k : Int) := by rw [wrap_u32]; omega
  have w5 : Go.IntKind.u8.wrap ((n + m : Nat) : Int) = (((n + m) % 256 : Nat) : Int) := by rw [wrap_u8]; omega
  have w6 : iShr .u16 ((n + m : Nat) : Int) 8 = (((n + m) / 256 : Nat) : Int) := by
    rw [iShr_eq, show min (8 : Int).toNat Go.IntKind.u16.bits = 8 from rfl]; omega
  have w7 : Go.IntKind.u8.wrap (((n + m) / 256 : Nat) : Int) = (((n + m) / 256 : Nat) : Int) := by rw [wrap_u8]; omega
  have u1 : preU32 [.v (.int .u32 (k : Int))] := ⟨_, rfl, by omega, by omega⟩
  have hk1 := small_el (n := (k : Int)) (by omega) (by omega)
  have p1 := hk1.p2 hX
  have hM := mul_el hk1 hX
  obtain ⟨M, hMM⟩ : ∃ M, mulF [(k : Int), 0, 0, 0, 0] X = M := ⟨_, rfl⟩
  rw [hMM] at hM
  have p2 := hS.p2 hM
  have b1 : bytesF S = bytesF M := by rw [hS.bytes, hM.bytes]
  have zk : ∀ u v : Int, 0 ≤ u → u < 256 → 0 ≤ v → v < 256 → Key [u, v, 0, 0, 0, 0, 0, 0, 0, 0, 0, 0, 0, 0, 0, 0, 0, 0, 0, 0, 0, 0, 0, 0, 0, 0, 0, 0, 0, 0, 0, 0] := fun u v h1 h2 h3 h4 => ⟨rfl, fun y hy => by
    simp only [List.mem_cons, List.not_mem_nil, or_false] at hy
    rcases hy with rfl | rfl | h
    · exact ⟨h1, h2⟩
    · exact ⟨h3, h4⟩
    · have : y = 0 := by simpa using h
      rw [this]; decide⟩
  have zv : ∀ u v : Int, val 256 [u, v, 0, 0, 0, 0, 0, 0, 0, 0, 0, 0, 0, 0, 0, 0, 0, 0, 0, 0, 0, 0, 0, 0, 0, 0, 0, 0, 0, 0, 0, 0] = u + 256 * v := fun u v => by simp only [val]; omega
  have kn := zk n 0 (by omega) (by omega) (by decide) (by decide)
  have km := zk m 0 (by omega) (by omega) (by decide) (by decide)
  have kb := zk (((n + m) % 256 : Nat) : Int) (((n + m) / 256 : Nat) : Int) (by omega) (by omega) (by omega) (by omega)
  have vn : val 256 [(n : Int), 0, 0, 0, 0, 0, 0, 0, 0, 0, 0, 0, 0, 0, 0, 0, 0, 0, 0, 0, 0, 0, 0, 0, 0, 0, 0, 0, 0, 0, 0, 0] = (n : Int) := by rw [zv]; omega
  have vm : val 256 [(m : Int), 0, 0, 0, 0, 0, 0, 0, 0, 0, 0, 0, 0, 0, 0, 0, 0, 0, 0, 0, 0, 0, 0, 0, 0, 0, 0, 0, 0, 0, 0, 0] = (m : Int) := by rw [zv]; omega
  have vb : val 256 [(((n + m) % 256 : Nat) : Int), (((n + m) / 256 : Nat) : Int), 0, 0, 0, 0, 0, 0, 0, 0, 0, 0, 0, 0, 0, 0, 0, 0, 0, 0, 0, 0, 0, 0, 0, 0, 0, 0, 0, 0, 0, 0] = ((n + m : Nat) : Int) := by rw [zv]; omega
  have pn := hX.pk kn
  have pm := hX.pk km
  have pb := hX.pk kb
  have en := pow_el (n : Int) hX
  have em := pow_el (m : Int) hX
  have eb := pow_el ((n + m : Nat) : Int) hX
  have hxb := hX.bd
  rw [pw_pow hxb.1 hxb.2 (by omega)] at en em eb
  have p3 := en.p2 em
  have hP := mul_el en em
  rw [← Int.mul_emod, ← Int.pow_add] at hP
  obtain ⟨Pn, hPn⟩ : ∃ Pn, powF X (n : Int) = Pn := ⟨_, rfl⟩
  obtain ⟨Pm', hPm⟩ : ∃ Pm', powF X (m : Int) = Pm' := ⟨_, rfl⟩
  obtain ⟨Pb, hPb⟩ : ∃ Pb, powF X ((n + m : Nat) : Int) = Pb := ⟨_, rfl⟩
  rw [hPn, hPm] at p3 hP
  rw [hPb] at eb
  obtain ⟨W, hW⟩ : ∃ W, mulF Pn Pm' = W := ⟨_, rfl⟩
  rw [hW] at hP
  have p4 := hP.p2 eb
  have b2 : bytesF W = bytesF Pb := by rw [hP.bytes, eb.bytes]
  have hq' : (n : Int).tmod 40 = (k : Int) := hq
  simp only [s38, s36, s39, s34, s26]
  simp only [c1,w1,w2,w3,w4,w5,w6,w7,hq',u1,p1,hMM,p2,b1,hXl,hSl,sS,sX,pn,pm,pb,vn,vm,vb,hPn,hPm,hPb,p3,hW,p4,b2,eq_self,s36,s39,s34,s26,F36,F39,F34,F26,qda,qc6,qaj,List.length_cons,List.length_nil,Nat.reduceAdd,Nat.le_refl,Nat.reduceLeDiff,Nat.reduceLT,true_and,and_true,↓qax,↓qay,↓qa0,↓qaz,↓qcs,↓qbj,↓qa1,↓qcl,↓qb3,↓qci,↓qcb,↓qce,↓qcf,↓qb4,↓qcd,↓qcj,↓qb5,↓qcg,↓qch,↓qb6,↓qcc,↓qca,↓qb9,↓qb8,↓qb7,↓qa5,↓qbc,↓qa6,↓qbd,↓qa7,↓qbe,↓qa8,↓qbf,↓qa9,↓qbg,↓qba,↓qbh,↓qbb,↓qbi,↓qb2,↓qck,↓qfc,↓qco,↓qcp,↓qcq,↓qcn,↓qcm,↓qbm,↓qbn,↓qb0,↓qbv,↓qbq,↓qbu,↓qbz,↓qbw,↓qby,↓qbx,↓qbr,↓qbp,↓qb1,↓qbs,↓qbt,↓qbo,↓qez,↓qey,↓qe3,↓qe5,↓qe4,↓qex,↓qew,↓qet,↓qeu,↓qe2,↓qe1,↓qe0,qc5,↓qeq,↓qer,↓qev,↓qc4,↓qc2,↓qc3,↓qe7,↓qe8,↓qe9,↓qe6,qaa,↓qes,↓qef,↓qeg,↓qfb,↓qfa,↓qei,↓qdk,↓qds,↓qd9,↓qea,↓qen,↓qeo,↓qdo,↓qdp,↓qdr,↓qdq,↓qdx,↓qep,↓qdv,↓qej,↓qdn,↓qed,↓qek,↓qel,↓qem,↓qd1,↓qd0,↓qd2,↓qd3,↓qd5,↓qdz,↓qd6,↓qd8,↓qd7,↓qdl,↓qdm,↓qdy,↓qaw,↓qdw,↓qee,↓qec,↓qdj,↓qeh,↓qeb,↓qd4,qav,List.drop_zero,Nat.sub_zero,qcy,qct,qcu,qdh,qat,qas,qaf,List.map_cons,List.map_nil,List.zip_cons_cons,List.zip_nil_right,List.zip_nil_left,qau,evs,evp,mkB,repB,blen,qae,qad,qac,qab,qc1,qc0,qdg,qdi,qde,qdf,qcx,qcz,qcv,qcw,↓qdc,↓qdb,↓qdd,↓qah,↓qag,↓qai,↓retQ,res,resAll,resOne,kill,apartOk,exp,injV,injB,pur,purs,purR,pursR,List.set_cons_zero,List.set_cons_succ,List.length_cons,List.length_nil,List.cons_append,List.nil_append,List.append_nil,List.append_assoc,List.length_append,List.reduceReplicate,Nat.reduceAdd,Nat.reduceMul,Nat.reduceSub,Nat.reduceEqDiff,Nat.reduceLT,Nat.zero_add,Nat.add_zero,Nat.mul_one,Int.reduceToNat,Int.toNat_natCast,Int.cast_ofNat_Int,Int.reduceLE,Int.reduceLT,Int.reduceEq,reduceCtorEq,↓reduceIte,Bool.true_eq_false,Bool.false_eq_true,Bool.not_true,Bool.not_false,true_and,and_true,and_assoc,qaj,sub1,qc8,qc7,qc9,List.length_replicate,Nat.le_refl,false_implies,true_implies,ne_eq,not_true_eq_false,not_false_eq_true,decide_true,decide_false,decide_eq_true_eq,decide_eq_false_iff_not,Bool.not_eq_true',Bool.not_eq_false']
  repeat (refine And.intro (by omega) ?_)
  simp only [out, outs, out1, pur, and_self]
end Am
set_option linter.unusedSimpArgs false
set_option linter.unusedVariables false
set_option maxRecDepth 20000
namespace Am
/-! ### Primes, by roots whose powers are all that is below them -/
def Prm (n : Nat) : Prop := 1 < n ∧ ∀ d, d ∣ n → d = 1 ∨ d = n
def td (n : Nat) : Nat → Nat → Bool
  | 0, _ => false
  | f + 1, d => if n < d * d then true else if n % d = 0 then false else td n f (d + 1)
theorem td_ok {n : Nat} : ∀ (f d : Nat), td n f d = true → ∀ e, d ≤ e → e * e ≤ n → ¬ e ∣ n
  | 0, _, h, _, _, _ => by simp [td] at h
  | f + 1, d, h, e, he, hn => by
    unfold td at h
    split at h
    · rename_i hd
      have := Nat.mul_le_mul he he
      omega
    · split at h
      · simp at h
      · rename_i hd
        rcases Nat.eq_or_lt_of_le he with rfl | hlt
        · intro hdvd; exact hd (Nat.mod_eq_zero_of_dvd hdvd)
        · exact td_ok f (d + 1) h e hlt hn
theorem prm_td {n f : Nat} (h1 : 1 < n) (h : td n f 2 = true) : Prm n := by
  refine ⟨h1, fun d hd => ?_⟩
  obtain ⟨e, he⟩ := hd
  have hd0 : 0 < d := Nat.pos_of_ne_zero fun h0 => by subst h0; simp at he; omega
  have he0 : 0 < e := Nat.pos_of_ne_zero fun h0 => by subst h0; simp at he; omega
  by_cases hd1 : d = 1
  · exact .inl hd1
  by_cases he1 : e = 1
  · right; rw [he, he1, Nat.mul_one]
  exfalso
  rcases Nat.le_total d e with hle | hle
  · have : d * d ≤ n := by rw [he]; exact Nat.mul_le_mul_left d hle
    exact td_ok f 2 h d (by omega) this ⟨e, he⟩
  · have : e * e ≤ n := by rw [he]; exact Nat.mul_le_mul_right e hle
    exact td_ok f 2 h e (by omega) this ⟨d, by rw [he, Nat.mul_comm]⟩
/-- A prime of a list divides whatever divides the list's product, but 1. -/
theorem prod_div : ∀ {fs : List Nat}, (∀ q ∈ fs, Prm q) → ∀ m, m ∣ fs.foldr (· * ·) 1 → m ≠ 1 → ∃ q ∈ fs, q ∣ m
  | [], _, m, hm, h1 => absurd (Nat.dvd_one.1 hm) h1
  | q :: fs, h, m, hm, h1 => by
    by_cases hq : q ∣ m
    · exact ⟨q, List.mem_cons_self, hq⟩
    · have hg : Nat.gcd m q = 1 := by
        rcases (h q List.mem_cons_self).2 _ (Nat.gcd_dvd_right m q) with h2 | h2
        · exact h2
        · exact absurd (h2 ▸ Nat.gcd_dvd_left m q) hq
      have hm' : m ∣ fs.foldr (· * ·) 1 := Nat.Coprime.dvd_of_dvd_mul_left hg hm
      obtain ⟨p, hp, hd⟩ := prod_div (fun q hq => h q (List.mem_cons_of_mem _ hq)) m hm' h1
      exact ⟨p, List.mem_cons_of_mem _ hp, hd⟩
/-- A power, bit by bit. -/
def pwn (m x V : Nat) : Nat → Nat → Nat
  | 0, acc => acc
  | n + 1, acc => pwn m x V n (if V / 2 ^ n % 2 = 1 then acc * acc % m * x % m else acc * acc % m)
theorem pwn_pow {m x V : Nat} : ∀ (n : Nat), pwn m (x % m) V n (x ^ (V / 2 ^ n) % m) = x ^ V % m
  | 0 => by rw [pwn]; simp
  | n + 1 => by
    have e : V / 2 ^ n = V / 2 ^ (n + 1) * 2 + V / 2 ^ n % 2 := by
      have : V / 2 ^ (n + 1) = V / 2 ^ n / 2 := by rw [Nat.pow_succ, Nat.div_div_eq_div_mul]
      rw [this]; omega
    have hs : x ^ (V / 2 ^ (n + 1)) % m * (x ^ (V / 2 ^ (n + 1)) % m) % m = x ^ (V / 2 ^ (n + 1) + V / 2 ^ (n + 1)) % m := by rw [← Nat.mul_mod, ← Nat.pow_add]
    rw [pwn, hs]
    by_cases h : V / 2 ^ n % 2 = 1
    · rw [if_pos h]
      have h1 : x % m = x ^ 1 % m := by rw [Nat.pow_one]
      conv => lhs; arg 5; rw [h1]
      rw [← Nat.mul_mod, ← Nat.pow_add]
      have e2 : V / 2 ^ (n + 1) + V / 2 ^ (n + 1) + 1 = V / 2 ^ n := by omega
      rw [e2]
      exact pwn_pow n
    · rw [if_neg h]
      have e2 : V / 2 ^ (n + 1) + V / 2 ^ (n + 1) = V / 2 ^ n := by omega
      rw [e2]
      exact pwn_pow n
theorem pwn_all {m x V e : Nat} (hV : V / 2 ^ e = 0) : pwn m (x % m) V e (1 % m) = x ^ V % m := by
  have := pwn_pow (m := m) (x := x) (V := V) e
  rwa [hV, Nat.pow_zero] at this
/-- What is one-to-one within a row is onto. -/
theorem php : ∀ (n : Nat) (f : Nat → Nat), (∀ i, i < n → f i < n) → (∀ i j, i < n → j < n → f i = f j → i = j) → ∀ y, y < n → ∃ i, i < n ∧ f i = y
  | 0, _, _, _, y, hy => by omega
  | n + 1, f, hf, hi, y, hy => by
    by_cases hyn : y = f n
    · exact ⟨n, by omega, hyn.symm⟩
    let f' : Nat → Nat := fun i => if f i = n then f n else f i
    have hlt : ∀ i, i < n → f' i < n := by
      intro i hin
      show (if f i = n then f n else f i) < n
      have h1 := hf i (by omega)
      have h2 := hf n (by omega)
      split
      · rename_i h
        have : f n ≠ n := fun e => by have := hi i n (by omega) (by omega) (by rw [h, e]); omega
        omega
      · omega
    have hinj : ∀ i j, i < n → j < n → f' i = f' j → i = j := by
      intro i j hin hjn he
      change (if f i = n then f n else f i) = (if f j = n then f n else f j) at he
      split at he
      · rename_i h1
        split at he
        · rename_i h2; exact hi i j (by omega) (by omega) (by rw [h1, h2])
        · have := hi n j (by omega) (by omega) he; omega
      · split at he
        · have := hi i n (by omega) (by omega) he; omega
        · exact hi i j (by omega) (by omega) he
    by_cases hyN : y = n
    · -- the last one stands elsewhere
      by_cases hfn : f n = n
      · exact absurd (hyN.trans hfn.symm) hyn
      obtain ⟨i, hin, he⟩ := php n f' hlt hinj (f n) (by have := hf n (by omega); omega)
      refine ⟨i, by omega, ?_⟩
      change (if f i = n then f n else f i) = f n at he
      split at he
      · rename_i h; rw [h, hyN]
      · have := hi i n (by omega) (by omega) he; omega
    · obtain ⟨i, hin, he⟩ := php n f' hlt hinj y (by omega)
      refine ⟨i, by omega, ?_⟩
      change (if f i = n then f n else f i) = y at he
      split at he
      · exact absurd he.symm hyn
      · exact he
section
variable {n g : Nat} {fs : List Nat}
theorem no_small (hn : 1 < n) (hfs : ∀ q ∈ fs, Prm q) (hprod : fs.foldr (· * ·) 1 = n - 1) (h1 : g ^ (n - 1) % n = 1) (h2 : ∀ q ∈ fs, g ^ ((n - 1) / q) % n ≠ 1) :
    ∀ k, 0 < k → k < n - 1 → g ^ k % n = 1 → False := by
  intro k
  induction k using Nat.strongRecOn with
  | ind k ih =>
    intro hk0 hk1 hgk
    have hpow : ∀ q, g ^ (k * q) % n = 1 := fun q => by
      rw [Nat.pow_mul, Nat.pow_mod, hgk, Nat.one_pow, Nat.mod_eq_of_lt hn]
    have hdm := Nat.div_add_mod (n - 1) k
    have hr : g ^ ((n - 1) % k) % n = 1 := by
      have : g ^ (n - 1) % n = g ^ ((n - 1) % k) % n := by
        conv => lhs; rw [← hdm, Nat.pow_add, Nat.mul_mod, hpow, Nat.one_mul, Nat.mod_mod]
      rw [← this]; exact h1
    have hlt := Nat.mod_lt (n - 1) hk0
    by_cases h0 : (n - 1) % k = 0
    · -- k divides n - 1
      have hkm : k * ((n - 1) / k) = n - 1 := by omega
      have hm1 : (n - 1) / k ≠ 1 := fun e => by rw [e] at hkm; omega
      obtain ⟨q, hq, m', hm'⟩ := prod_div hfs ((n - 1) / k) (by rw [hprod]; exact ⟨k, by rw [Nat.mul_comm]; exact hkm.symm⟩) hm1
      refine h2 q hq ?_
      have hq0 : 0 < q := by have := (hfs q hq).1; omega
      have : (n - 1) / q = k * m' := by
        rw [← hkm, hm', ← Nat.mul_assoc, Nat.mul_comm k q, Nat.mul_assoc, Nat.mul_div_cancel_left _ hq0]
      rw [this]; exact hpow m'
    · exact ih _ hlt (by omega) (by omega) hr
theorem pratt {e : Nat} (hn : 1 < n) (hfs : ∀ q ∈ fs, Prm q) (hprod : fs.foldr (· * ·) 1 = n - 1) (he : (n - 1) / 2 ^ e = 0) (h1 : pwn n (g % n) (n - 1) e (1 % n) = 1)
    (h2 : (fs.all fun q => decide ((n - 1) / q / 2 ^ e = 0) && decide (pwn n (g % n) ((n - 1) / q) e (1 % n) ≠ 1)) = true) : Prm n ∧ ∀ x, 0 < x → x < n → x ^ (n - 1) % n = 1 := by
  rw [pwn_all he] at h1
  have h2' : ∀ q ∈ fs, g ^ ((n - 1) / q) % n ≠ 1 := fun q hq => by
    have := List.all_eq_true.1 h2 q hq
    simp only [Bool.and_eq_true, decide_eq_true_eq] at this
    rw [← pwn_all this.1]; exact this.2
  have hns := no_small hn hfs hprod h1 h2'
  have hpos : ∀ i, i < n - 1 → 0 < g ^ i % n := fun i hi => by
    apply Nat.pos_of_ne_zero
    intro h0
    have : g ^ (n - 1) % n = 0 := by
      rw [show n - 1 = i + (n - 1 - i) by omega, Nat.pow_add, Nat.mul_mod, h0, Nat.zero_mul, Nat.zero_mod]
    omega
  have hinj : ∀ i j, i ≤ j → j < n - 1 → g ^ i % n = g ^ j % n → i = j := fun i j hij hj he => by
    rcases Nat.eq_or_lt_of_le hij with h | h
    · exact h
    exfalso
    refine hns (j - i) (by omega) (by omega) ?_
    have e1 : g ^ (n - 1 - i) * g ^ i % n = 1 := by rw [← Nat.pow_add, show n - 1 - i + i = n - 1 by omega]; exact h1
    have e2 : g ^ (n - 1 - i) * g ^ j % n = 1 := by rw [Nat.mul_mod, ← he, ← Nat.mul_mod]; exact e1
    rw [← Nat.pow_add, show n - 1 - i + j = (n - 1) + (j - i) by omega, Nat.pow_add, Nat.mul_mod, h1, Nat.one_mul, Nat.mod_mod] at e2
    exact e2
  have hsurj : ∀ x, 0 < x → x < n → ∃ i, i < n - 1 ∧ g ^ i % n = x := fun x hx0 hx1 => by
    obtain ⟨i, hi, he⟩ := php (n - 1) (fun i => g ^ i % n - 1) (fun i hi => by have := Nat.mod_lt (g ^ i) (show 0 < n by omega); have := hpos i hi; show g ^ i % n - 1 < n - 1; omega)
      (fun i j hi hj he => by
        have hi0 := hpos i hi
        have hj0 := hpos j hj
        have he' : g ^ i % n = g ^ j % n := by
          have : g ^ i % n - 1 = g ^ j % n - 1 := he
          omega
        rcases Nat.le_total i j with h | h
        · exact hinj i j h hj he'
        · exact (hinj j i h hi he'.symm).symm) (x - 1) (by omega)
    refine ⟨i, hi, ?_⟩
    have : g ^ i % n - 1 = x - 1 := he
    have := hpos i hi
    omega
  refine ⟨⟨hn, fun d hd => ?_⟩, fun x hx0 hx1 => ?_⟩
  · have hd0 : 0 < d := Nat.pos_of_dvd_of_pos hd (by omega)
    have hdn := Nat.le_of_dvd (by omega) hd
    rcases Nat.eq_or_lt_of_le hdn with h | h
    · exact .inr h
    · left
      obtain ⟨i, hi, he⟩ := hsurj d hd0 h
      have e1 : d * g ^ (n - 1 - i) % n = 1 := by
        rw [← he, Nat.mod_mul_mod, ← Nat.pow_add, show i + (n - 1 - i) = n - 1 by omega]; exact h1
      have h3 : d ∣ d * g ^ (n - 1 - i) % n := (Nat.dvd_mod_iff hd).2 (Nat.dvd_mul_right _ _)
      rw [e1] at h3
      exact Nat.dvd_one.1 h3
  · obtain ⟨i, hi, he⟩ := hsurj x hx0 hx1
    rw [← he, ← Nat.pow_mod, ← Nat.pow_mul, Nat.mul_comm, Nat.pow_mul, Nat.pow_mod, h1, Nat.one_pow, Nat.mod_eq_of_lt hn]
end
theorem pr2 : Prm 2 := prm_td (f := 6) (by decide) (by decide +kernel)
theorem pr3 : Prm 3 := prm_td (f := 6) (by decide) (by decide +kernel)
theorem pr5 : Prm 5 := prm_td (f := 7) (by decide) (by decide +kernel)
theorem pr7 : Prm 7 := prm_td (f := 7) (by decide) (by decide +kernel)
theorem pr13 : Prm 13 := prm_td (f := 8) (by decide) (by decide +kernel)
theorem pr19 : Prm 19 := prm_td (f := 9) (by decide) (by decide +kernel)
theorem pr31 : Prm 31 := prm_td (f := 10) (by decide) (by decide +kernel)
theorem pr47 : Prm 47 := prm_td (f := 11) (by decide) (by decide +kernel)
theorem pr107 : Prm 107 := prm_td (f := 15) (by decide) (by decide +kernel)
theorem pr127 : Prm 127 := prm_td (f := 16) (by decide) (by decide +kernel)
theorem pr223 : Prm 223 := prm_td (f := 19) (by decide) (by decide +kernel)
theorem pr353 : Prm 353 := prm_td (f := 23) (by decide) (by decide +kernel)
theorem pr2437 : Prm 2437 := prm_td (f := 54) (by decide) (by decide +kernel)
theorem pr4153 : Prm 4153 := prm_td (f := 69) (by decide) (by decide +kernel)
theorem pr57467 : Prm 57467 := prm_td (f := 244) (by decide) (by decide +kernel)
theorem pr65147 : Prm 65147 := prm_td (f := 260) (by decide) (by decide +kernel)
theorem pr75707 : Prm 75707 := prm_td (f := 280) (by decide) (by decide +kernel)
theorem pr132049 : Prm 132049 := prm_td (f := 368) (by decide) (by decide +kernel)
theorem pr430751 : Prm 430751 := prm_td (f := 661) (by decide) (by decide +kernel)
theorem pr569003 : Prm 569003 := prm_td (f := 759) (by decide) (by decide +kernel)
theorem pr1923133 : Prm 1923133 := prm_td (f := 1391) (by decide) (by decide +kernel)
theorem pr8574133 : Prm 8574133 := prm_td (f := 2933) (by decide) (by decide +kernel)
theorem fs320623 : ∀ q ∈ ([2, 2437, 569003] : List Nat), Prm q := by
  intro q h
  simp only [List.mem_cons, List.not_mem_nil, or_false] at h
  rcases h with rfl | rfl | rfl
  · exact pr2
  · exact pr2437
  · exact pr569003
theorem pr2773320623 : Prm 2773320623 ∧ ∀ x, 0 < x → x < 2773320623 → x ^ (2773320623 - 1) % 2773320623 = 1 :=
  pratt (g := 5) (fs := [2, 2437, 569003]) (e := 32) (by decide) fs320623 (by decide +kernel) (by decide +kernel) (by decide +kernel) (by decide +kernel)
theorem fs336199 : ∀ q ∈ ([2, 13, 2773320623] : List Nat), Prm q := by
  intro q h
  simp only [List.mem_cons, List.not_mem_nil, or_false] at h
  rcases h with rfl | rfl | rfl
  · exact pr2
  · exact pr13
  · exact pr2773320623.1
theorem pr72106336199 : Prm 72106336199 ∧ ∀ x, 0 < x → x < 72106336199 → x ^ (72106336199 - 1) % 72106336199 = 1 :=
  pratt (g := 7) (fs := [2, 13, 2773320623]) (e := 37) (by decide) fs336199 (by decide +kernel) (by decide +kernel) (by decide +kernel) (by decide +kernel)
theorem fs386763 : ∀ q ∈ ([2, 3, 7, 19, 47, 47, 127, 8574133] : List Nat), Prm q := by
  intro q h
  simp only [List.mem_cons, List.not_mem_nil, or_false] at h
  rcases h with rfl | rfl | rfl | rfl | rfl | rfl | rfl | rfl
  · exact pr2
  · exact pr3
  · exact pr7
  · exact pr19
  · exact pr47
  · exact pr47
  · exact pr127
  · exact pr8574133
theorem pr1919519569386763 : Prm 1919519569386763 ∧ ∀ x, 0 < x → x < 1919519569386763 → x ^ (1919519569386763 - 1) % 1919519569386763 = 1 :=
  pratt (g := 2) (fs := [2, 3, 7, 19, 47, 47, 127, 8574133]) (e := 51) (by decide) fs386763 (by decide +kernel) (by decide +kernel) (by decide +kernel) (by decide +kernel)
theorem fs855353 : ∀ q ∈ ([2, 2, 2, 3, 31, 107, 223, 4153, 430751] : List Nat), Prm q := by
  intro q h
  simp only [List.mem_cons, List.not_mem_nil, or_false] at h
  rcases h with rfl | rfl | rfl | rfl | rfl | rfl | rfl | rfl | rfl
  · exact pr2
  · exact pr2
  · exact pr2
  · exact pr3
  · exact pr31
  · exact pr107
  · exact pr223
  · exact pr4153
  · exact pr430751
theorem pr31757755568855353 : Prm 31757755568855353 ∧ ∀ x, 0 < x → x < 31757755568855353 → x ^ (31757755568855353 - 1) % 31757755568855353 = 1 :=
  pratt (g := 10) (fs := [2, 2, 2, 3, 31, 107, 223, 4153, 430751]) (e := 55) (by decide) fs855353 (by decide +kernel) (by decide +kernel) (by decide +kernel) (by decide +kernel)
theorem fs864801 : ∀ q ∈ ([2, 2, 2, 2, 2, 3, 3, 5, 5, 75707, 72106336199, 1919519569386763] : List Nat), Prm q := by
  intro q h
  simp only [List.mem_cons, List.not_mem_nil, or_false] at h
  rcases h with rfl | rfl | rfl | rfl | rfl | rfl | rfl | rfl | rfl | rfl | rfl | rfl
  · exact pr2
  · exact pr2
  · exact pr2
  · exact pr2
  · exact pr2
  · exact pr3
  · exact pr3
  · exact pr5
  · exact pr5
  · exact pr75707
  · exact pr72106336199.1
  · exact pr1919519569386763.1
theorem pr75445702479781427272750846543864801 : Prm 75445702479781427272750846543864801 ∧ ∀ x, 0 < x → x < 75445702479781427272750846543864801 → x ^ (75445702479781427272750846543864801 - 1) % 75445702479781427272750846543864801 = 1 :=
  pratt (g := 7) (fs := [2, 2, 2, 2, 2, 3, 3, 5, 5, 75707, 72106336199, 1919519569386763]) (e := 116) (by decide) fs864801 (by decide +kernel) (by decide +kernel) (by decide +kernel) (by decide +kernel)
theorem fs340907 : ∀ q ∈ ([2, 3, 353, 57467, 132049, 1923133, 31757755568855353, 75445702479781427272750846543864801] : List Nat), Prm q := by
  intro q h
  simp only [List.mem_cons, List.not_mem_nil, or_false] at h
  rcases h with rfl | rfl | rfl | rfl | rfl | rfl | rfl | rfl
  · exact pr2
  · exact pr3
  · exact pr353
  · exact pr57467
  · exact pr132049
  · exact pr1923133
  · exact pr31757755568855353.1
  · exact pr75445702479781427272750846543864801.1
theorem pr74058212732561358302231226437062788676166966415465897661863160754340907 : Prm 74058212732561358302231226437062788676166966415465897661863160754340907 ∧ ∀ x, 0 < x → x < 74058212732561358302231226437062788676166966415465897661863160754340907 → x ^ (74058212732561358302231226437062788676166966415465897661863160754340907 - 1) % 74058212732561358302231226437062788676166966415465897661863160754340907 = 1 :=
  pratt (g := 2) (fs := [2, 3, 353, 57467, 132049, 1923133, 31757755568855353, 75445702479781427272750846543864801]) (e := 236) (by decide) fs340907 (by decide +kernel) (by decide +kernel) (by decide +kernel) (by decide +kernel)
theorem fs819949 : ∀ q ∈ ([2, 2, 3, 65147, 74058212732561358302231226437062788676166966415465897661863160754340907] : List Nat), Prm q := by
  intro q h
  simp only [List.mem_cons, List.not_mem_nil, or_false] at h
  rcases h with rfl | rfl | rfl | rfl | rfl
  · exact pr2
  · exact pr2
  · exact pr3
  · exact pr65147
  · exact pr74058212732561358302231226437062788676166966415465897661863160754340907.1
theorem pr57896044618658097711785492504343953926634992332820282019728792003956564819949 : Prm 57896044618658097711785492504343953926634992332820282019728792003956564819949 ∧ ∀ x, 0 < x → x < 57896044618658097711785492504343953926634992332820282019728792003956564819949 → x ^ (57896044618658097711785492504343953926634992332820282019728792003956564819949 - 1) % 57896044618658097711785492504343953926634992332820282019728792003956564819949 = 1 :=
  pratt (g := 2) (fs := [2, 2, 3, 65147, 74058212732561358302231226437062788676166966415465897661863160754340907]) (e := 255) (by decide) fs819949 (by decide +kernel) (by decide +kernel) (by decide +kernel) (by decide +kernel)
end Am
set_option linter.unusedSimpArgs false
set_option linter.unusedVariables false
set_option maxRecDepth 20000
namespace Am
open Go.Proofs
/-! ### FieldLaws -/
def qP : Nat := 57896044618658097711785492504343953926634992332820282019728792003956564819948
def qI : Nat := 57896044618658097711785492504343953926634992332820282019728792003956564819947
theorem fermat_gen {P : Nat} (hP : ∀ x, 0 < x → x < P → x ^ (P - 1) % P = 1) {e : Nat} (he : P - 1 = e) {x : Int} (h0 : 0 < x) (h1 : x < (P : Int)) : x ^ e % (P : Int) = 1 := by
  obtain ⟨n, rfl⟩ := Int.eq_ofNat_of_zero_le (Int.le_of_lt h0)
  have h := hP n (by omega) (by omega)
  rw [he] at h
  have h2 : ((n ^ e % P : Nat) : Int) = 1 := by rw [h]; rfl
  rwa [Int.natCast_emod, Int.natCast_pow] at h2
theorem cast_Pp : ((57896044618658097711785492504343953926634992332820282019728792003956564819949 : Nat) : Int) = Pp := rfl
theorem qP_eq : 57896044618658097711785492504343953926634992332820282019728792003956564819949 - 1 = qP := rfl
theorem fermat {x : Int} (h0 : 0 < x) (h1 : x < Pp) : x ^ qP % Pp = 1 := by
  have := fermat_gen pr57896044618658097711785492504343953926634992332820282019728792003956564819949.2 qP_eq h0 (by rw [cast_Pp]; exact h1)
  rwa [cast_Pp] at this
theorem qI_eq : Pp - 2 = (qI : Int) := by decide
theorem qI_lt : qI < 2 ^ 256 := by decide
theorem qPI : qP = qI + 1 := rfl
theorem inv_val {x : Int} (h0 : 0 ≤ x) (h1 : x < Pp) : pw x (Pp - 2) = x ^ qI % Pp := by
  rw [qI_eq]; exact pw_pow h0 h1 qI_lt
theorem inv_mul {x : Int} (h0 : 0 < x) (h1 : x < Pp) : x * pw x (Pp - 2) % Pp = 1 := by
  have h := fermat h0 h1
  rw [qPI, Int.pow_succ, Int.mul_comm] at h
  rw [inv_val (Int.le_of_lt h0) h1, Int.mul_emod, Int.emod_emod_of_dvd _ (Int.dvd_refl _), ← Int.mul_emod]
  exact h
/-! ### The law -/
theorem fm1 (a b : Int) : a % Pp * b % Pp = a * b % Pp := by rw [Int.mul_emod, Int.emod_emod_of_dvd _ (Int.dvd_refl _), ← Int.mul_emod]
theorem fm2 (a b : Int) : a * (b % Pp) % Pp = a * b % Pp := by rw [Int.mul_emod, Int.emod_emod_of_dvd _ (Int.dvd_refl _), ← Int.mul_emod]
theorem fa1 (a b : Int) : (a % Pp + b) % Pp = (a + b) % Pp := Int.emod_add_emod ..
theorem fa2 (a b : Int) : (a + b % Pp) % Pp = (a + b) % Pp := Int.add_emod_emod ..
theorem fs1 (a b : Int) : (a % Pp - b) % Pp = (a - b) % Pp := Int.emod_sub_emod ..
theorem fs2 (a b : Int) : (a - b % Pp) % Pp = (a - b) % Pp := Int.sub_emod_emod ..
theorem z_of {p : Int} (h : p = 0) : p % Pp = 0 := by rw [h]; rfl
def preKKK (ds : List D) : Prop := ∃ a b c : List Int, ds = [.v (.ints .u8 a), .v (.ints .u8 b), .v (.ints .u8 c)] ∧ Key a ∧ Key b ∧ Key c
set_option maxHeartbeats 4000000 in
theorem lawFieldLaws : ∀ ds, preKKK ds → Does Try.prog gl 10 (injV ds 4) (gl ++ injB true ds) (out (4 + (injB true ds).length) (FTrue ds)) := by
  refine fdoesA (l := [(23, s23), (24, s24), (33, s33), (31, s31), (39, s39), (36, s36), (34, s34), (38, s38), (42, s42), (45, s45)]) mixed gl_plain rfl Try.func10 comp10 compR10 nt10 (by simp only [List.mem_cons, List.not_mem_nil, or_false, forall_eq_or_imp, forall_eq]; exact ⟨ok23, ok24, ok33, ok31, ok39, ok36, ok34, ok38, ok42, ok45⟩) fun ds ⟨a, b, c, hd, ha, hb, hc⟩ hA => ?_
  subst hd
  have pA : pre23 [] := rfl
  have hal := ha.1
  have sa : sub a 0 32 = a := qda hal
  have eX := xo_el ha
  obtain ⟨LX, hXX⟩ : ∃ X, xo a = X := ⟨_, rfl⟩
  have hX : dig 2251799813685248 5 (val 256 a) = LX := hXX
  rw [hXX] at eX
  obtain ⟨x, vX⟩ : ∃ x, kv a = x := ⟨_, rfl⟩
  rw [vX] at eX
  have lX := eX.len
  have sX : sub LX 0 5 = LX := qda lX
  have rX : spl [0, 0, 0, 0, 0] 0 LX = LX := qc6 (by simp [lX])
  have kX := ha.p1
  have hbl := hb.1
  have sb : sub b 0 32 = b := qda hbl
  have eY := xo_el hb
  obtain ⟨LY, hYY⟩ : ∃ X, xo b = X := ⟨_, rfl⟩
  have hY : dig 2251799813685248 5 (val 256 b) = LY := hYY
  rw [hYY] at eY
  obtain ⟨y, vY⟩ : ∃ x, kv b = x := ⟨_, rfl⟩
  rw [vY] at eY
  have lY := eY.len
  have sY : sub LY 0 5 = LY := qda lY
  have rY : spl [0, 0, 0, 0, 0] 0 LY = LY := qc6 (by simp [lY])
  have kY := hb.p1
  have hcl := hc.1
  have sc : sub c 0 32 = c := qda hcl
  have eZ := xo_el hc
  obtain ⟨LZ, hZZ⟩ : ∃ X, xo c = X := ⟨_, rfl⟩
  have hZ : dig 2251799813685248 5 (val 256 c) = LZ := hZZ
  rw [hZZ] at eZ
  obtain ⟨z, vZ⟩ : ∃ x, kv c = x := ⟨_, rfl⟩
  rw [vZ] at eZ
  have lZ := eZ.len
  have sZ : sub LZ 0 5 = LZ := qda lZ
  have rZ : spl [0, 0, 0, 0, 0] 0 LZ = LZ := qc6 (by simp [lZ])
  have kZ := hc.p1
  have hx := eX.bd
  obtain ⟨LA1, hA1⟩ : ∃ N, addF LX LY = N := ⟨_, rfl⟩
  have eA1 : El LA1 ((x + y) % Pp) := by rw [← hA1]; exact add_el eX eY
  have pA1 := eX.p2 eY
  obtain ⟨LA2, hA2⟩ : ∃ N, addF LY LX = N := ⟨_, rfl⟩
  have eA2 : El LA2 ((y + x) % Pp) := by rw [← hA2]; exact add_el eY eX
  have pA2 := eY.p2 eX
  obtain ⟨LM1, hM1⟩ : ∃ N, mulF LX LY = N := ⟨_, rfl⟩
  have eM1 : El LM1 ((x * y) % Pp) := by rw [← hM1]; exact mul_el eX eY
  have pM1 := eX.p2 eY
  obtain ⟨LM2, hM2⟩ : ∃ N, mulF LY LX = N := ⟨_, rfl⟩
  have eM2 : El LM2 ((y * x) % Pp) := by rw [← hM2]; exact mul_el eY eX
  have pM2 := eY.p2 eX
  obtain ⟨LB1, hB1⟩ : ∃ N, addF LA1 LZ = N := ⟨_, rfl⟩
  have eB1 : El LB1 ((((x + y) % Pp) + z) % Pp) := by rw [← hB1]; exact add_el eA1 eZ
  have pB1 := eA1.p2 eZ
  obtain ⟨LYZ, hYZ⟩ : ∃ N, addF LY LZ = N := ⟨_, rfl⟩
  have eYZ : El LYZ ((y + z) % Pp) := by rw [← hYZ]; exact add_el eY eZ
  have pYZ := eY.p2 eZ
  obtain ⟨LB2, hB2⟩ : ∃ N, addF LX LYZ = N := ⟨_, rfl⟩
  have eB2 : El LB2 ((x + ((y + z) % Pp)) % Pp) := by rw [← hB2]; exact add_el eX eYZ
  have pB2 := eX.p2 eYZ
  obtain ⟨LN1, hN1⟩ : ∃ N, mulF LM1 LZ = N := ⟨_, rfl⟩
  have eN1 : El LN1 ((((x * y) % Pp) * z) % Pp) := by rw [← hN1]; exact mul_el eM1 eZ
  have pN1 := eM1.p2 eZ
  obtain ⟨LNZ, hNZ⟩ : ∃ N, mulF LY LZ = N := ⟨_, rfl⟩
  have eNZ : El LNZ ((y * z) % Pp) := by rw [← hNZ]; exact mul_el eY eZ
  have pNZ := eY.p2 eZ
  obtain ⟨LN2, hN2⟩ : ∃ N, mulF LX LNZ = N := ⟨_, rfl⟩
  have eN2 : El LN2 ((x * ((y * z) % Pp)) % Pp) := by rw [← hN2]; exact mul_el eX eNZ
  have pN2 := eX.p2 eNZ
  obtain ⟨LD1, hD1⟩ : ∃ N, mulF LA1 LZ = N := ⟨_, rfl⟩
  have eD1 : El LD1 ((((x + y) % Pp) * z) % Pp) := by rw [← hD1]; exact mul_el eA1 eZ
  have pD1 := eA1.p2 eZ
  obtain ⟨LXZ, hXZ⟩ : ∃ N, mulF LX LZ = N := ⟨_, rfl⟩
  have eXZ : El LXZ ((x * z) % Pp) := by rw [← hXZ]; exact mul_el eX eZ
  have pXZ := eX.p2 eZ
  obtain ⟨LD2, hD2⟩ : ∃ N, addF LXZ LNZ = N := ⟨_, rfl⟩
  have eD2 : El LD2 ((((x * z) % Pp) + ((y * z) % Pp)) % Pp) := by rw [← hD2]; exact add_el eXZ eNZ
  have pD2 := eXZ.p2 eNZ
  obtain ⟨LS0, hS0⟩ : ∃ N, subF LX LX = N := ⟨_, rfl⟩
  have eS0 : El LS0 ((x - x) % Pp) := by rw [← hS0]; exact sub_el eX eX
  have pS0 := eX.p2 eX
  obtain ⟨LS1, hS1⟩ : ∃ N, subF LX LY = N := ⟨_, rfl⟩
  have eS1 : El LS1 ((x - y) % Pp) := by rw [← hS1]; exact sub_el eX eY
  have pS1 := eX.p2 eY
  obtain ⟨LS2, hS2⟩ : ∃ N, addF LS1 LY = N := ⟨_, rfl⟩
  have eS2 : El LS2 ((((x - y) % Pp) + y) % Pp) := by rw [← hS2]; exact add_el eS1 eY
  have pS2 := eS1.p2 eY
  obtain ⟨LG1, hG1⟩ : ∃ N, subF [0, 0, 0, 0, 0] LX = N := ⟨_, rfl⟩
  have eG1 : El LG1 ((-x) % Pp) := by rw [← hG1]; exact neg_el eX
  have pG1 := eX.p1
  obtain ⟨LG2, hG2⟩ : ∃ N, addF LG1 LX = N := ⟨_, rfl⟩
  have eG2 : El LG2 ((((-x) % Pp) + x) % Pp) := by rw [← hG2]; exact add_el eG1 eX
  have pG2 := eG1.p2 eX
  obtain ⟨LI, hI⟩ : ∃ N, invF LX = N := ⟨_, rfl⟩
  have eI : El LI (pw x (Pp - 2)) := by rw [← hI]; exact inv_el eX
  have pI := eX.p1
  obtain ⟨LJ, hJ⟩ : ∃ N, mulF LX LI = N := ⟨_, rfl⟩
  have eJ : El LJ ((x * (pw x (Pp - 2))) % Pp) := by rw [← hJ]; exact mul_el eX eI
  have pJ := eX.p2 eI
  have bA1 : bytesF LA1 = bytesF LA2 := by
    rw [eA1.bytes, eA2.bytes]
    congr 1
    try simp only [fm1, fm2, fa1, fa2, fs1, fs2]
    congr 1; grind
  have qA1 := eA1.p2 eA2
  have bM1 : bytesF LM1 = bytesF LM2 := by
    rw [eM1.bytes, eM2.bytes]
    congr 1
    try simp only [fm1, fm2, fa1, fa2, fs1, fs2]
    congr 1; grind
  have qM1 := eM1.p2 eM2
  have bB1 : bytesF LB1 = bytesF LB2 := by
    rw [eB1.bytes, eB2.bytes]
    congr 1
    try simp only [fm1, fm2, fa1, fa2, fs1, fs2]
    congr 1; grind
  have qB1 := eB1.p2 eB2
  have bN1 : bytesF LN1 = bytesF LN2 := by
    rw [eN1.bytes, eN2.bytes]
    congr 1
    try simp only [fm1, fm2, fa1, fa2, fs1, fs2]
    congr 1; grind
  have qN1 := eN1.p2 eN2
  have bD1 : bytesF LD1 = bytesF LD2 := by
    rw [eD1.bytes, eD2.bytes]
    congr 1
    try simp only [fm1, fm2, fa1, fa2, fs1, fs2]
    congr 1; grind
  have qD1 := eD1.p2 eD2
  have bS2 : bytesF LS2 = bytesF LX := by
    rw [eS2.bytes, eX.bytes]
    congr 1
    try simp only [fm1, fm2, fa1, fa2, fs1, fs2]
    rw [show x - y + y = x by omega]; exact Int.emod_eq_of_lt hx.1 hx.2
  have qS2 := eS2.p2 eX
  have bS0 : bytesF LS0 = [0, 0, 0, 0, 0, 0, 0, 0, 0, 0, 0, 0, 0, 0, 0, 0, 0, 0, 0, 0, 0, 0, 0, 0, 0, 0, 0, 0, 0, 0, 0, 0] := by
    rw [eS0.bytes]
    try simp only [fm1, fm2, fa1, fa2, fs1, fs2]
    rw [z_of (by omega)]; exact dig_zero 256 32
  have qS0 := eS0.p1
  have bG2 : bytesF LG2 = [0, 0, 0, 0, 0, 0, 0, 0, 0, 0, 0, 0, 0, 0, 0, 0, 0, 0, 0, 0, 0, 0, 0, 0, 0, 0, 0, 0, 0, 0, 0, 0] := by
    rw [eG2.bytes]
    try simp only [fm1, fm2, fa1, fa2, fs1, fs2]
    rw [z_of (by omega)]; exact dig_zero 256 32
  have qG2 := eG2.p1
  have pz := eX.p1
  have u1 : preU32 [.v (.int .u32 1)] := ⟨1, rfl, by decide, by decide⟩
  have e1 : El [1, 0, 0, 0, 0] 1 := small_el (by decide) (by decide)
  have p1 := eJ.p2 e1
  simp only [s23, s24, s33, s31, s39, s36, s34, s38, s42, s45]
  by_cases hx0 : x = 0
  · have bX : bytesF LX = [0, 0, 0, 0, 0, 0, 0, 0, 0, 0, 0, 0, 0, 0, 0, 0, 0, 0, 0, 0, 0, 0, 0, 0, 0, 0, 0, 0, 0, 0, 0, 0] := by rw [eX.bytes, hx0]; exact dig_zero 256 32
    rw [bX] at bS2
    simp only [ir10,rs10,gl,FTrue,pA,pz,bX,hA1,pA1,hA2,pA2,hM1,pM1,hM2,pM2,hB1,pB1,hYZ,pYZ,hB2,pB2,hN1,pN1,hNZ,pNZ,hN2,pN2,hD1,pD1,hXZ,pXZ,hD2,pD2,hS0,pS0,hS1,pS1,hS2,pS2,hG1,pG1,hG2,pG2,hI,pI,hJ,pJ,bA1,qA1,bM1,qM1,bB1,qB1,bN1,qN1,bD1,qD1,bS2,qS2,bS0,qS0,bG2,qG2,hal,sa,hX,lX,sX,rX,kX,hbl,sb,hY,lY,sY,rY,kY,hcl,sc,hZ,lZ,sZ,rZ,kZ,eq_self,s23,s24,s33,s31,s39,s36,s34,s38,s42,s45,F23,F24,F33,F31,F39,F36,F34,F38,F42,F45,qda,qc6,qaj,List.length_cons,List.length_nil,Nat.reduceAdd,Nat.le_refl,Nat.reduceLeDiff,Nat.reduceLT,true_and,and_true,↓qax,↓qay,↓qa0,↓qaz,↓qcs,↓qbj,↓qa1,↓qcl,↓qb3,↓qci,↓qcb,↓qce,↓qcf,↓qb4,↓qcd,↓qcj,↓qb5,↓qcg,↓qch,↓qb6,↓qcc,↓qca,↓qb9,↓qb8,↓qb7,↓qa5,↓qbc,↓qa6,↓qbd,↓qa7,↓qbe,↓qa8,↓qbf,↓qa9,↓qbg,↓qba,↓qbh,↓qbb,↓qbi,↓qb2,↓qck,↓qfc,↓qco,↓qcp,↓qcq,↓qcn,↓qcm,↓qbm,↓qbn,↓qb0,↓qbv,↓qbq,↓qbu,↓qbz,↓qbw,↓qby,↓qbx,↓qbr,↓qbp,↓qb1,↓qbs,↓qbt,↓qbo,↓qez,↓qey,↓qe3,↓qe5,↓qe4,↓qex,↓qew,↓qet,↓qeu,↓qe2,↓qe1,↓qe0,qc5,↓qeq,↓qer,↓qev,↓qc4,↓qc2,↓qc3,↓qe7,↓qe8,↓qe9,↓qe6,qaa,↓qes,↓qef,↓qeg,↓qfb,↓qfa,↓qei,↓qdk,↓qds,↓qd9,↓qea,↓qen,↓qeo,↓qdo,↓qdp,↓qdr,↓qdq,↓qdx,↓qep,↓qdv,↓qej,↓qdn,↓qed,↓qek,↓qel,↓qem,↓qd1,↓qd0,↓qd2,↓qd3,↓qd5,↓qdz,↓qd6,↓qd8,↓qd7,↓qdl,↓qdm,↓qdy,↓qaw,↓qdw,↓qee,↓qec,↓qdj,↓qeh,↓qeb,↓qd4,qav,List.drop_zero,Nat.sub_zero,qcy,qct,qcu,qdh,qat,qas,qaf,List.map_cons,List.map_nil,List.zip_cons_cons,List.zip_nil_right,List.zip_nil_left,qau,evs,evp,mkB,repB,blen,qae,qad,qac,qab,qc1,qc0,qdg,qdi,qde,qdf,qcx,qcz,qcv,qcw,↓qdc,↓qdb,↓qdd,↓qah,↓qag,↓qai,↓retQ,res,resAll,resOne,kill,apartOk,exp,injV,injB,pur,purs,purR,pursR,List.set_cons_zero,List.set_cons_succ,List.length_cons,List.length_nil,List.cons_append,List.nil_append,List.append_nil,List.append_assoc,List.length_append,List.reduceReplicate,Nat.reduceAdd,Nat.reduceMul,Nat.reduceSub,Nat.reduceEqDiff,Nat.reduceLT,Nat.zero_add,Nat.add_zero,Nat.mul_one,Int.reduceToNat,Int.toNat_natCast,Int.cast_ofNat_Int,Int.reduceLE,Int.reduceLT,Int.reduceEq,reduceCtorEq,↓reduceIte,Bool.true_eq_false,Bool.false_eq_true,Bool.not_true,Bool.not_false,true_and,and_true,and_assoc,qaj,sub1,qc8,qc7,qc9,List.length_replicate,Nat.le_refl,false_implies,true_implies,ne_eq,not_true_eq_false,not_false_eq_true,decide_true,decide_false,decide_eq_true_eq,decide_eq_false_iff_not,Bool.not_eq_true',Bool.not_eq_false']
    repeat (refine And.intro (by omega) ?_)
    simp only [out, outs, out1, pur, and_self]
  · have bX : ¬ bytesF LX = [0, 0, 0, 0, 0, 0, 0, 0, 0, 0, 0, 0, 0, 0, 0, 0, 0, 0, 0, 0, 0, 0, 0, 0, 0, 0, 0, 0, 0, 0, 0, 0] := fun h => hx0 ((zero_iff hx.1 hx.2).1 (by rw [← eX.bytes]; exact h))
    have bJ : bytesF LJ = bytesF [1, 0, 0, 0, 0] := by
      rw [eJ.bytes, e1.bytes, inv_mul (by omega) hx.2]
    simp only [ir10,rs10,gl,FTrue,pA,pz,bX,u1,p1,bJ,hA1,pA1,hA2,pA2,hM1,pM1,hM2,pM2,hB1,pB1,hYZ,pYZ,hB2,pB2,hN1,pN1,hNZ,pNZ,hN2,pN2,hD1,pD1,hXZ,pXZ,hD2,pD2,hS0,pS0,hS1,pS1,hS2,pS2,hG1,pG1,hG2,pG2,hI,pI,hJ,pJ,bA1,qA1,bM1,qM1,bB1,qB1,bN1,qN1,bD1,qD1,bS2,qS2,bS0,qS0,bG2,qG2,hal,sa,hX,lX,sX,rX,kX,hbl,sb,hY,lY,sY,rY,kY,hcl,sc,hZ,lZ,sZ,rZ,kZ,eq_self,s23,s24,s33,s31,s39,s36,s34,s38,s42,s45,F23,F24,F33,F31,F39,F36,F34,F38,F42,F45,qda,qc6,qaj,List.length_cons,List.length_nil,Nat.reduceAdd,Nat.le_refl,Nat.reduceLeDiff,Nat.reduceLT,true_and,and_true,↓qax,↓qay,↓qa0,↓qaz,↓qcs,↓qbj,↓qa1,↓qcl,↓qb3,↓qci,↓qcb,↓qce,↓qcf,↓qb4,↓qcd,↓qcj,↓qb5,↓qcg,↓qch,↓qb6,↓qcc,↓qca,↓qb9,↓qb8,↓qb7,↓qa5,↓qbc,↓qa6,↓qbd,↓qa7,↓qbe,↓qa8,↓qbf,↓qa9,↓qbg,↓qba,↓qbh,↓qbb,↓qbi,↓qb2,↓qck,↓qfc,↓qco,↓qcp,↓qcq,↓qcn,↓qcm,↓qbm,↓qbn,↓qb0,↓qbv,↓qbq,↓qbu,↓qbz,↓qbw,↓qby,↓qbx,↓qbr,↓qbp,↓qb1,↓qbs,↓qbt,↓qbo,↓qez,↓qey,↓qe3,↓qe5,↓qe4,↓qex,↓qew,↓qet,↓qeu,↓qe2,↓qe1,↓qe0,qc5,↓qeq,↓qer,↓qev,↓qc4,↓qc2,↓qc3,↓qe7,↓qe8,↓qe9,↓qe6,qaa,↓qes,↓qef,↓qeg,↓qfb,↓qfa,↓qei,↓qdk,↓qds,↓qd9,↓qea,↓qen,↓qeo,↓qdo,↓qdp,↓qdr,↓qdq,↓qdx,↓qep,↓qdv,↓qej,↓qdn,↓qed,↓qek,↓qel,↓qem,↓qd1,↓qd0,↓qd2,↓qd3,↓qd5,↓qdz,↓qd6,↓qd8,↓qd7,↓qdl,↓qdm,↓qdy,↓qaw,↓qdw,↓qee,↓qec,↓qdj,↓qeh,↓qeb,↓qd4,qav,List.drop_zero,Nat.sub_zero,qcy,qct,qcu,qdh,qat,qas,qaf,List.map_cons,List.map_nil,List.zip_cons_cons,List.zip_nil_right,List.zip_nil_left,qau,evs,evp,mkB,repB,blen,qae,qad,qac,qab,qc1,qc0,qdg,qdi,qde,qdf,qcx,qcz,qcv,qcw,↓qdc,↓qdb,↓qdd,↓qah,↓qag,↓qai,↓retQ,res,resAll,resOne,kill,apartOk,exp,injV,injB,pur,purs,purR,pursR,List.set_cons_zero,List.set_cons_succ,List.length_cons,List.length_nil,List.cons_append,List.nil_append,List.append_nil,List.append_assoc,List.length_append,List.reduceReplicate,Nat.reduceAdd,Nat.reduceMul,Nat.reduceSub,Nat.reduceEqDiff,Nat.reduceLT,Nat.zero_add,Nat.add_zero,Nat.mul_one,Int.reduceToNat,Int.toNat_natCast,Int.cast_ofNat_Int,Int.reduceLE,Int.reduceLT,Int.reduceEq,reduceCtorEq,↓reduceIte,Bool.true_eq_false,Bool.false_eq_true,Bool.not_true,Bool.not_false,true_and,and_true,and_assoc,qaj,sub1,qc8,qc7,qc9,List.length_replicate,Nat.le_refl,false_implies,true_implies,ne_eq,not_true_eq_false,not_false_eq_true,decide_true,decide_false,decide_eq_true_eq,decide_eq_false_iff_not,Bool.not_eq_true',Bool.not_eq_false']
    repeat (refine And.intro (by omega) ?_)
    simp only [out, outs, out1, pur, and_self]
end Am
