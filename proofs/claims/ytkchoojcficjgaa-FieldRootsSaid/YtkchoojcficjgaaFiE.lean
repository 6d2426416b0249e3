/-
Working texts: contracts of functions, and the numbers behind them.
-/
import Derived.Test.YtkchoojcficjgaaFiC
set_option linter.unusedSimpArgs false
set_option linter.unusedVariables false
set_option linter.unusedSectionVars false
set_option linter.unusedSimpArgs false
set_option linter.unusedVariables false
set_option maxRecDepth 20000
namespace Am
open Go.Proofs
/-! ### The product of two numbers in five parts -/
def wide (ys : List Int) (i k : Nat) : Int := if 4 < i + k then getI ys k * 19 else getI ys k
def colst (xs ys : List Int) (i : Nat) (cs : List Int) (k : Nat) : List Int := cs.set ((i + k) % 5) (getI cs ((i + k) % 5) + getI xs i * wide ys i k)
def colrow (xs ys : List Int) (cs : List Int) (i : Nat) : List Int := itr (colst xs ys i) cs 5
def cols (xs ys : List Int) : List Int := itr (colrow xs ys) [0, 0, 0, 0, 0] 5
def Cl (B : Int) (cs : List Int) : Prop := cs.length = 5 ∧ ∀ j, 0 ≤ getI cs j ∧ getI cs j ≤ B
def Mx : Int := 649037107316853453566312041152512
theorem wide_bd {ys : List Int} (h : Fv 4503599627370496 ys) (i k : Nat) : 0 ≤ wide ys i k ∧ wide ys i k < 144115188075855872 := by
  have := h.all (by decide) k
  unfold wide; split <;> omega
theorem prod_bd {xs ys : List Int} (hx : Fv 4503599627370496 xs) (hy : Fv 4503599627370496 ys) (i k : Nat) : 0 ≤ getI xs i * wide ys i k ∧ getI xs i * wide ys i k ≤ Mx := by
  have h1 := hx.all (by decide) i
  have h2 := wide_bd hy i k
  exact prod_lt (A := 4503599627370496) (B := 144115188075855872) h1.1 (by omega) h2.1 (by omega)
theorem colst_inv {xs ys cs : List Int} (hx : Fv 4503599627370496 xs) (hy : Fv 4503599627370496 ys) {B : Int} (i : Nat) (h : Cl B cs) (k : Nat) : Cl (B + k * Mx) (itr (colst xs ys i) cs k) := by
  refine itr_inv (fun k cs => Cl (B + k * Mx) cs) (by simpa using h) (fun k cs hc => ?_) k
  refine ⟨by simp [colst, hc.1], fun j => ?_⟩
  have hp := prod_bd hx hy i k
  rw [colst, getI_set _ _ _ _ (by rw [hc.1]; omega)]
  have h1 := hc.2 ((i + k) % 5)
  have h2 := hc.2 j
  have : ((k + 1 : Nat) : Int) * Mx = (k : Int) * Mx + Mx := by rw [Int.natCast_add, Int.add_mul]; rfl
  rw [this]
  generalize (k : Int) * Mx = q at *
  unfold Mx at *
  split <;> omega
theorem colrow_inv {xs ys : List Int} (hx : Fv 4503599627370496 xs) (hy : Fv 4503599627370496 ys) (i : Nat) : Cl ((i : Int) * (5 * Mx)) (itr (colrow xs ys) [0, 0, 0, 0, 0] i) := by
  refine itr_inv (fun i cs => Cl ((i : Int) * (5 * Mx)) cs) ⟨rfl, fun j => ?_⟩ (fun i cs hc => ?_) i
  · rcases (by omega : j = 0 ∨ j = 1 ∨ j = 2 ∨ j = 3 ∨ j = 4 ∨ 5 ≤ j) with rfl | rfl | rfl | rfl | rfl | h
    all_goals first | (rw [getI_of_le (by simpa using h)]; simp) | simp [getI]
  · have := colst_inv hx hy i hc 5
    have e : ((i + 1 : Nat) : Int) * (5 * Mx) = (i : Int) * (5 * Mx) + (5 : Nat) * Mx := by rw [Int.natCast_add, Int.add_mul]; rfl
    rw [e]
    exact this
def hi64 (cs : List Int) : List Int := cs.map (· / 18446744073709551616)
def lo64 (cs : List Int) : List Int := cs.map (· % 18446744073709551616)
theorem hi_len (cs : List Int) : (hi64 cs).length = cs.length := by simp [hi64]
theorem lo_len (cs : List Int) : (lo64 cs).length = cs.length := by simp [lo64]
theorem hi_get {cs : List Int} {j : Nat} (h : j < cs.length) : getI (hi64 cs) j = getI cs j / 18446744073709551616 := getI_map h
theorem lo_get {cs : List Int} {j : Nat} (h : j < cs.length) : getI (lo64 cs) j = getI cs j % 18446744073709551616 := getI_map h
theorem hi_set (cs : List Int) (j : Nat) (v : Int) : (hi64 cs).set j (v / 18446744073709551616) = hi64 (cs.set j v) := by simp [hi64, List.map_set]
theorem lo_set (cs : List Int) (j : Nat) (v : Int) : (lo64 cs).set j (v % 18446744073709551616) = lo64 (cs.set j v) := by simp [lo64, List.map_set]
structure Chn where
  cs : List Int
  o : List Int
  c : Int
def chst (s : Chn) (i : Nat) : Chn := ⟨s.cs.set i (getI s.cs i + s.c), s.o.set i ((getI s.cs i + s.c) % 2251799813685248), (getI s.cs i + s.c) / 2251799813685248⟩
def chn (cs : List Int) (n : Nat) : Chn := itr chst ⟨cs, [0, 0, 0, 0, 0], 0⟩ n
theorem chn_inv {cs : List Int} (h : Cl (25 * Mx) cs) (n : Nat) : Cl (26 * Mx) (chn cs n).cs ∧ Fv 2251799813685248 (chn cs n).o ∧ (0 ≤ (chn cs n).c ∧ (chn cs n).c ≤ 9223372036854775808) ∧ ∀ j, n ≤ j → getI (chn cs n).cs j = getI cs j := by
  refine itr_inv (fun n (s : Chn) => Cl (26 * Mx) s.cs ∧ Fv 2251799813685248 s.o ∧ (0 ≤ s.c ∧ s.c ≤ 9223372036854775808) ∧ ∀ j, n ≤ j → getI s.cs j = getI cs j) ⟨⟨h.1, fun j => ?_⟩, ⟨rfl, by simp only; unfold Dig; decide⟩, by simp, fun _ _ => rfl⟩ (fun n s hs => ?_) n
  · have := h.2 j; unfold Mx at *; simp only; omega
  · obtain ⟨h1, h2, h3, h4⟩ := hs
    have e := h4 n (Nat.le_refl _)
    have hb := h.2 n
    unfold Mx at hb
    refine ⟨⟨by simp [chst, h1.1], fun j => ?_⟩, ⟨by simp [chst, h2.1], h2.2.set _ (by omega) (by omega)⟩, ?_, fun j hj => ?_⟩
    · simp only [chst]
      by_cases hn : n < 5
      · rw [getI_set _ _ _ _ (by rw [h1.1]; exact hn)]
        have := h1.2 j
        unfold Mx at *
        split <;> omega
      · rw [List.set_eq_of_length_le (by rw [h1.1]; omega)]; exact h1.2 j
    · simp only [chst]; omega
    · simp only [chst]
      by_cases hn : n < 5
      · rw [getI_set _ _ _ _ (by rw [h1.1]; exact hn), if_neg (by omega)]; exact h4 j (by omega)
      · rw [List.set_eq_of_length_le (by rw [h1.1]; omega)]; exact h4 j (by omega)
def fin (s : Chn) : List Int := carryF ((s.o.set 0 ((s.c * 19 + getI s.o 0) % 2251799813685248)).set 1 (getI s.o 1 + (s.c * 19 + getI s.o 0) / 2251799813685248))
def mulF (xs ys : List Int) : List Int := fin (chn (cols xs ys) 5)
def F39 : List D → Out
  | [.v (.ints _ xs), .v (.ints _ ys)] => .one (.v (.ints .u64 (mulF xs ys)))
  | _ => bad
def s39 : Summ := sData [.v, .v] preEE F39
theorem pre_mul {x y : Int} (h : 0 ≤ x ∧ x < 4503599627370496) (h2 : 0 ≤ y ∧ y < 144115188075855872) : preWW [.v (.int .u64 x), .v (.int .u64 y)] := ⟨x, y, rfl, by omega, by omega, by omega, by omega⟩
theorem tmod5 {i : Nat} : (i : Int).tmod 5 = ((i % 5 : Nat) : Int) := tmod_nat (k := 5)
theorem ok39 {g : List Blk} [Ge gl g] : SumOK Try.prog g 39 s39 ∧ SumAbs s39 := by
  refine fsumA (l := [(76, s76), (79, s79)]) mixed gl_plain rfl Try.func39 comp39 compR39 nt39 (by simp only [List.mem_cons, List.not_mem_nil, or_false, forall_eq_or_imp, forall_eq]; exact ⟨ok76, ok79⟩) fun ds ⟨xs, ys, hd, hx, hy⟩ hA => ?_
  subst hd
  have hxl := hx.1
  have hyl := hy.1
  have sx : sub xs 0 5 = xs := qda hxl
  have sy : sub ys 0 5 = ys := qda hyl
  simp only [s76, s79]
  simp only [ir39,rs39,gl,F39,hxl,hyl,sx,qda,qc6,qaj,List.length_cons,List.length_nil,Nat.reduceAdd,Nat.le_refl,Nat.reduceLeDiff,Nat.reduceLT,true_and,and_true,↓qax,↓qay,↓qa0,↓qaz,↓qcs,↓qbj,↓qa1,↓qcl,↓qb3,↓qci,↓qcb,↓qce,↓qcf,↓qb4,↓qcd,↓qcj,↓qb5,↓qcg,↓qch,↓qb6,↓qcc,↓qca,↓qb9,↓qb8,↓qb7,↓qa5,↓qbc,↓qa6,↓qbd,↓qa7,↓qbe,↓qa8,↓qbf,↓qa9,↓qbg,↓qba,↓qbh,↓qbb,↓qbi,↓qb2,↓qck,↓qfc,↓qco,↓qcp,↓qcq,↓qcn,↓qcm,↓qbm,↓qbn,↓qb0,↓qbv,↓qbq,↓qbu,↓qbz,↓qbw,↓qby,↓qbx,↓qbr,↓qbp,↓qb1,↓qbs,↓qbt,↓qbo,↓qez,↓qey,↓qe3,↓qe5,↓qe4,↓qex,↓qew,↓qet,↓qeu,↓qe2,↓qe1,↓qe0,qc5,↓qeq,↓qer,↓qev,↓qc4,↓qc2,↓qc3,↓qe7,↓qe8,↓qe9,↓qe6,qaa,↓qes,↓qef,↓qeg,↓qfb,↓qfa,↓qei,↓qdk,↓qds,↓qd9,↓qea,↓qen,↓qeo,↓qdo,↓qdp,↓qdr,↓qdq,↓qdx,↓qep,↓qdv,↓qej,↓qdn,↓qed,↓qek,↓qel,↓qem,↓qd1,↓qd0,↓qd2,↓qd3,↓qd5,↓qdz,↓qd6,↓qd8,↓qd7,↓qdl,↓qdm,↓qdy,↓qaw,↓qdw,↓qee,↓qec,↓qdj,↓qeh,↓qeb,↓qd4,qav,List.drop_zero,Nat.sub_zero,qcy,qct,qcu,qdh,qat,qas,qaf,List.map_cons,List.map_nil,List.zip_cons_cons,List.zip_nil_right,List.zip_nil_left,qau,evs,evp,mkB,repB,blen,qae,qad,qac,qab,qc1,qc0,qdg,qdi,qde,qdf,qcx,qcz,qcv,qcw,↓qdc,↓qdb,↓qdd,↓qah,↓qag,↓qai,↓retQ,res,resAll,resOne,kill,apartOk,exp,injV,injB,pur,purs,purR,pursR,List.set_cons_zero,List.set_cons_succ,List.length_cons,List.length_nil,List.cons_append,List.nil_append,List.append_nil,List.append_assoc,List.length_append,List.reduceReplicate,Nat.reduceAdd,Nat.reduceMul,Nat.reduceSub,Nat.reduceEqDiff,Nat.reduceLT,Nat.zero_add,Nat.add_zero,Nat.mul_one,Int.reduceToNat,Int.toNat_natCast,Int.cast_ofNat_Int,Int.reduceLE,Int.reduceLT,Int.reduceEq,reduceCtorEq,↓reduceIte,Bool.true_eq_false,Bool.false_eq_true,Bool.not_true,Bool.not_false,true_and,and_true,and_assoc,qaj,sub1,qc8,qc7,qc9,List.length_replicate,Nat.le_refl,false_implies,true_implies,ne_eq,not_true_eq_false,not_false_eq_true,decide_true,decide_false,decide_eq_true_eq,decide_eq_false_iff_not,Bool.not_eq_true',Bool.not_eq_false']
  repeat (refine And.intro (by omega) ?_)
  refine awp_loopA (n := 142) hA [3, 4, 5, 6, 22, 23] (by decide +kernel) (fun i : Nat => [.ptr 5 0, .ptr 6 0, .ptr 7 0, .ptr 8 0, .ints .u64 xs, .int .i64 i])
    (fun i => [.dead, .dead, .dead, .dead, .ints false .u64 xs, .ints false .u64 ys, .ints false .u64 [0, 0, 0, 0, 0], .ints false .u64 (hi64 (itr (colrow xs ys) [0, 0, 0, 0, 0] i)), .ints false .u64 (lo64 (itr (colrow xs ys) [0, 0, 0, 0, 0] i))]) (fun i => i ≤ 5) (fun i => 5 - i) 0 ?_ (by omega) ?_
  · refine Hd.same ?_
    simp only [itr,show hi64 [0,0,0,0,0] = [0,0,0,0,0] by rfl,show lo64 [0,0,0,0,0] = [0,0,0,0,0] by rfl,↓qax,↓qay,↓qa0,↓qaz,↓qcs,↓qbj,↓qa1,↓qcl,↓qb3,↓qci,↓qcb,↓qce,↓qcf,↓qb4,↓qcd,↓qcj,↓qb5,↓qcg,↓qch,↓qb6,↓qcc,↓qca,↓qb9,↓qb8,↓qb7,↓qa5,↓qbc,↓qa6,↓qbd,↓qa7,↓qbe,↓qa8,↓qbf,↓qa9,↓qbg,↓qba,↓qbh,↓qbb,↓qbi,↓qb2,↓qck,↓qfc,↓qco,↓qcp,↓qcq,↓qcn,↓qcm,↓qbm,↓qbn,↓qb0,↓qbv,↓qbq,↓qbu,↓qbz,↓qbw,↓qby,↓qbx,↓qbr,↓qbp,↓qb1,↓qbs,↓qbt,↓qbo,↓qez,↓qey,↓qe3,↓qe5,↓qe4,↓qex,↓qew,↓qet,↓qeu,↓qe2,↓qe1,↓qe0,qc5,↓qeq,↓qer,↓qev,↓qc4,↓qc2,↓qc3,↓qe7,↓qe8,↓qe9,↓qe6,qaa,↓qes,↓qef,↓qeg,↓qfb,↓qfa,↓qei,↓qdk,↓qds,↓qd9,↓qea,↓qen,↓qeo,↓qdo,↓qdp,↓qdr,↓qdq,↓qdx,↓qep,↓qdv,↓qej,↓qdn,↓qed,↓qek,↓qel,↓qem,↓qd1,↓qd0,↓qd2,↓qd3,↓qd5,↓qdz,↓qd6,↓qd8,↓qd7,↓qdl,↓qdm,↓qdy,↓qaw,↓qdw,↓qee,↓qec,↓qdj,↓qeh,↓qeb,↓qd4,qav,List.drop_zero,Nat.sub_zero,qcy,qct,qcu,qdh,qat,qas,qaf,List.map_cons,List.map_nil,List.zip_cons_cons,List.zip_nil_right,List.zip_nil_left,qau,evs,evp,mkB,repB,blen,qae,qad,qac,qab,qc1,qc0,qdg,qdi,qde,qdf,qcx,qcz,qcv,qcw,↓qdc,↓qdb,↓qdd,↓qah,↓qag,↓qai,↓retQ,res,resAll,resOne,kill,apartOk,exp,injV,injB,pur,purs,purR,pursR,List.set_cons_zero,List.set_cons_succ,List.length_cons,List.length_nil,List.cons_append,List.nil_append,List.append_nil,List.append_assoc,List.length_append,List.reduceReplicate,Nat.reduceAdd,Nat.reduceMul,Nat.reduceSub,Nat.reduceEqDiff,Nat.reduceLT,Nat.zero_add,Nat.add_zero,Nat.mul_one,Int.reduceToNat,Int.toNat_natCast,Int.cast_ofNat_Int,Int.reduceLE,Int.reduceLT,Int.reduceEq,reduceCtorEq,↓reduceIte,Bool.true_eq_false,Bool.false_eq_true,Bool.not_true,Bool.not_false,true_and,and_true,and_assoc,qaj,sub1,qc8,qc7,qc9,List.length_replicate,Nat.le_refl,false_implies,true_implies,ne_eq,not_true_eq_false,not_false_eq_true,decide_true,decide_false,decide_eq_true_eq,decide_eq_false_iff_not,Bool.not_eq_true',Bool.not_eq_false']
  intro i hi K hK
  have hC := colrow_inv hx hy i
  by_cases hlt : i < 5
  · have c1 : (i : Int) < 5 := by omega
    have wi : Go.IntKind.i64.wrap ((i : Int) + 1) = ((i + 1 : Nat) : Int) := by rw [wrap_i64]; omega
    have hj : itr (colrow xs ys) [0, 0, 0, 0, 0] (i + 1) = itr (colst xs ys i) (itr (colrow xs ys) [0, 0, 0, 0, 0] i) 5 := rfl
    obtain ⟨c0, hc0⟩ : ∃ c0, itr (colrow xs ys) [0, 0, 0, 0, 0] i = c0 := ⟨_, rfl⟩
    rw [hc0] at hj hC
    rw [hc0]
    simp only [c1,hxl,hyl,sy,qda,qc6,qaj,List.length_cons,List.length_nil,Nat.reduceAdd,Nat.le_refl,Nat.reduceLeDiff,Nat.reduceLT,true_and,and_true,↓qax,↓qay,↓qa0,↓qaz,↓qcs,↓qbj,↓qa1,↓qcl,↓qb3,↓qci,↓qcb,↓qce,↓qcf,↓qb4,↓qcd,↓qcj,↓qb5,↓qcg,↓qch,↓qb6,↓qcc,↓qca,↓qb9,↓qb8,↓qb7,↓qa5,↓qbc,↓qa6,↓qbd,↓qa7,↓qbe,↓qa8,↓qbf,↓qa9,↓qbg,↓qba,↓qbh,↓qbb,↓qbi,↓qb2,↓qck,↓qfc,↓qco,↓qcp,↓qcq,↓qcn,↓qcm,↓qbm,↓qbn,↓qb0,↓qbv,↓qbq,↓qbu,↓qbz,↓qbw,↓qby,↓qbx,↓qbr,↓qbp,↓qb1,↓qbs,↓qbt,↓qbo,↓qez,↓qey,↓qe3,↓qe5,↓qe4,↓qex,↓qew,↓qet,↓qeu,↓qe2,↓qe1,↓qe0,qc5,↓qeq,↓qer,↓qev,↓qc4,↓qc2,↓qc3,↓qe7,↓qe8,↓qe9,↓qe6,qaa,↓qes,↓qef,↓qeg,↓qfb,↓qfa,↓qei,↓qdk,↓qds,↓qd9,↓qea,↓qen,↓qeo,↓qdo,↓qdp,↓qdr,↓qdq,↓qdx,↓qep,↓qdv,↓qej,↓qdn,↓qed,↓qek,↓qel,↓qem,↓qd1,↓qd0,↓qd2,↓qd3,↓qd5,↓qdz,↓qd6,↓qd8,↓qd7,↓qdl,↓qdm,↓qdy,↓qaw,↓qdw,↓qee,↓qec,↓qdj,↓qeh,↓qeb,↓qd4,qav,List.drop_zero,Nat.sub_zero,qcy,qct,qcu,qdh,qat,qas,qaf,List.map_cons,List.map_nil,List.zip_cons_cons,List.zip_nil_right,List.zip_nil_left,qau,evs,evp,mkB,repB,blen,qae,qad,qac,qab,qc1,qc0,qdg,qdi,qde,qdf,qcx,qcz,qcv,qcw,↓qdc,↓qdb,↓qdd,↓qah,↓qag,↓qai,↓retQ,res,resAll,resOne,kill,apartOk,exp,injV,injB,pur,purs,purR,pursR,List.set_cons_zero,List.set_cons_succ,List.length_cons,List.length_nil,List.cons_append,List.nil_append,List.append_nil,List.append_assoc,List.length_append,List.reduceReplicate,Nat.reduceAdd,Nat.reduceMul,Nat.reduceSub,Nat.reduceEqDiff,Nat.reduceLT,Nat.zero_add,Nat.add_zero,Nat.mul_one,Int.reduceToNat,Int.toNat_natCast,Int.cast_ofNat_Int,Int.reduceLE,Int.reduceLT,Int.reduceEq,reduceCtorEq,↓reduceIte,Bool.true_eq_false,Bool.false_eq_true,Bool.not_true,Bool.not_false,true_and,and_true,and_assoc,qaj,sub1,qc8,qc7,qc9,List.length_replicate,Nat.le_refl,false_implies,true_implies,ne_eq,not_true_eq_false,not_false_eq_true,decide_true,decide_false,decide_eq_true_eq,decide_eq_false_iff_not,Bool.not_eq_true',Bool.not_eq_false']
    repeat (refine And.intro (by omega) ?_)
    refine awp_loopA (n := 142) hA [3, 4, 5, 6, 7, 8, 22, 23, 28, 29] (by decide +kernel) (fun k : Nat => [.ptr 5 0, .ptr 6 0, .ptr 7 0, .ptr 8 0, .int .i64 i, .int .u64 (getI xs i), .ints .u64 xs, .int .i64 i, .ints .u64 ys, .int .i64 k])
      (fun k => [.dead, .dead, .dead, .dead, .ints false .u64 xs, .ints false .u64 ys, .ints false .u64 [0, 0, 0, 0, 0], .ints false .u64 (hi64 (itr (colst xs ys i) c0 k)), .ints false .u64 (lo64 (itr (colst xs ys i) c0 k))]) (fun k => k ≤ 5) (fun k => 5 - k) 0 ?_ (by omega) ?_
    · refine Hd.same ?_
      simp only [itr,↓qax,↓qay,↓qa0,↓qaz,↓qcs,↓qbj,↓qa1,↓qcl,↓qb3,↓qci,↓qcb,↓qce,↓qcf,↓qb4,↓qcd,↓qcj,↓qb5,↓qcg,↓qch,↓qb6,↓qcc,↓qca,↓qb9,↓qb8,↓qb7,↓qa5,↓qbc,↓qa6,↓qbd,↓qa7,↓qbe,↓qa8,↓qbf,↓qa9,↓qbg,↓qba,↓qbh,↓qbb,↓qbi,↓qb2,↓qck,↓qfc,↓qco,↓qcp,↓qcq,↓qcn,↓qcm,↓qbm,↓qbn,↓qb0,↓qbv,↓qbq,↓qbu,↓qbz,↓qbw,↓qby,↓qbx,↓qbr,↓qbp,↓qb1,↓qbs,↓qbt,↓qbo,↓qez,↓qey,↓qe3,↓qe5,↓qe4,↓qex,↓qew,↓qet,↓qeu,↓qe2,↓qe1,↓qe0,qc5,↓qeq,↓qer,↓qev,↓qc4,↓qc2,↓qc3,↓qe7,↓qe8,↓qe9,↓qe6,qaa,↓qes,↓qef,↓qeg,↓qfb,↓qfa,↓qei,↓qdk,↓qds,↓qd9,↓qea,↓qen,↓qeo,↓qdo,↓qdp,↓qdr,↓qdq,↓qdx,↓qep,↓qdv,↓qej,↓qdn,↓qed,↓qek,↓qel,↓qem,↓qd1,↓qd0,↓qd2,↓qd3,↓qd5,↓qdz,↓qd6,↓qd8,↓qd7,↓qdl,↓qdm,↓qdy,↓qaw,↓qdw,↓qee,↓qec,↓qdj,↓qeh,↓qeb,↓qd4,qav,List.drop_zero,Nat.sub_zero,qcy,qct,qcu,qdh,qat,qas,qaf,List.map_cons,List.map_nil,List.zip_cons_cons,List.zip_nil_right,List.zip_nil_left,qau,evs,evp,mkB,repB,blen,qae,qad,qac,qab,qc1,qc0,qdg,qdi,qde,qdf,qcx,qcz,qcv,qcw,↓qdc,↓qdb,↓qdd,↓qah,↓qag,↓qai,↓retQ,res,resAll,resOne,kill,apartOk,exp,injV,injB,pur,purs,purR,pursR,List.set_cons_zero,List.set_cons_succ,List.length_cons,List.length_nil,List.cons_append,List.nil_append,List.append_nil,List.append_assoc,List.length_append,List.reduceReplicate,Nat.reduceAdd,Nat.reduceMul,Nat.reduceSub,Nat.reduceEqDiff,Nat.reduceLT,Nat.zero_add,Nat.add_zero,Nat.mul_one,Int.reduceToNat,Int.toNat_natCast,Int.cast_ofNat_Int,Int.reduceLE,Int.reduceLT,Int.reduceEq,reduceCtorEq,↓reduceIte,Bool.true_eq_false,Bool.false_eq_true,Bool.not_true,Bool.not_false,true_and,and_true,and_assoc,qaj,sub1,qc8,qc7,qc9,List.length_replicate,Nat.le_refl,false_implies,true_implies,ne_eq,not_true_eq_false,not_false_eq_true,decide_true,decide_false,decide_eq_true_eq,decide_eq_false_iff_not,Bool.not_eq_true',Bool.not_eq_false']
    intro k hk K2 hK2
    have hC2 := colst_inv hx hy i hC k
    have hb : (i : Int) * (5 * Mx) + k * Mx ≤ 25 * Mx := by
      have e' : ∀ M : Int, (i : Int) * (5 * M) + k * M = ((5 * i + k : Nat) : Int) * M := fun M => by
        simp only [Int.natCast_add, Int.natCast_mul]
        grind
      have e := e' Mx
      rw [e]
      exact Int.mul_le_mul_of_nonneg_right (by omega) (by decide)
    generalize (i : Int) * (5 * Mx) + k * Mx = bd at hC2 hb
    have hcl := hC2.1
    by_cases hlk : k < 5
    · have c2 : (k : Int) < 5 := by omega
      have wk : Go.IntKind.i64.wrap ((k : Int) + 1) = ((k + 1 : Nat) : Int) := by rw [wrap_i64]; omega
      have wik : Go.IntKind.i64.wrap ((i : Int) + (k : Int)) = ((i + k : Nat) : Int) := by rw [wrap_i64]; omega
      have hs : itr (colst xs ys i) c0 (k + 1) = colst xs ys i (itr (colst xs ys i) c0 k) k := rfl
      obtain ⟨cs, hcs⟩ : ∃ cs, itr (colst xs ys i) c0 k = cs := ⟨_, rfl⟩
      rw [hcs] at hs hC2 hcl
      rw [hcs]
      have hp := prod_bd hx hy i k
      have hwd := wide_bd hy i k
      have hxi := hx.all (by decide) i
      have hyk := hy.all (by decide) k
      obtain ⟨j, hj5⟩ : ∃ j, (i + k) % 5 = j := ⟨_, rfl⟩
      have hjl : j < 5 := by omega
      have hcj := hC2.2 j
      have pm := pre_mul hxi hwd
      rw [colst, hj5] at hs
      have hhl : (hi64 cs).length = 5 := by rw [hi_len, hcl]
      have hll : (lo64 cs).length = 5 := by rw [lo_len, hcl]
      have hh := hi_get (cs := cs) (j := j) (by omega)
      have hlw := lo_get (cs := cs) (j := j) (by omega)
      have w19 : 4 < i + k → Go.IntKind.u64.wrap (getI ys k * 19) = wide ys i k := fun h => by rw [wide, if_pos h, wrap_u64]; omega
      have w0 : ¬ 4 < i + k → wide ys i k = getI ys k := fun h => by rw [wide, if_neg h]
      obtain ⟨z, hz⟩ : ∃ z, getI xs i * wide ys i k = z := ⟨_, rfl⟩
      obtain ⟨wd, hwd'⟩ : ∃ wd, wide ys i k = wd := ⟨_, rfl⟩
      obtain ⟨x, hxx⟩ : ∃ x, getI xs i = x := ⟨_, rfl⟩
      obtain ⟨v, hv⟩ : ∃ v, getI cs j = v := ⟨_, rfl⟩
      rw [hz] at hp hs
      rw [hwd', hxx] at hz pm
      rw [hwd'] at w19 w0
      rw [hv] at hh hlw hcj hs
      unfold Mx at hp hb
      have u1 : v % 18446744073709551616 + z % 18446744073709551616 + 0 = v % 18446744073709551616 + z % 18446744073709551616 := Int.add_zero _
      have u2 : (v % 18446744073709551616 + z % 18446744073709551616) % 18446744073709551616 = (v + z) % 18446744073709551616 := by omega
      have u3 : Go.IntKind.u64.wrap (z / 18446744073709551616 + (v % 18446744073709551616 + z % 18446744073709551616) / 18446744073709551616) = z / 18446744073709551616 + (v % 18446744073709551616 + z % 18446744073709551616) / 18446744073709551616 := by rw [wrap_u64]; omega
      have u4 : Go.IntKind.u64.wrap (v / 18446744073709551616 + (z / 18446744073709551616 + (v % 18446744073709551616 + z % 18446744073709551616) / 18446744073709551616)) = (v + z) / 18446744073709551616 := by rw [wrap_u64]; omega
      have u5 : (0 : Int) ≤ v % 18446744073709551616 := by omega
      have u6 : (0 : Int) ≤ z % 18446744073709551616 := by omega
      have q1 : (0 : Int) ≤ 0 := by decide
      have q2 : (0 : Int) ≤ 1 := by decide
      simp only [s76, s79]
      by_cases h4 : 4 < i + k
      · have c3 : (4 : Int) < ((i + k : Nat) : Int) := by omega
        simp only [c1,c2,c3,wi,wk,wik,w19 h4,hxl,hyl,hhl,hll,hxx,hz,pm,tmod5,hj5,hh,hlw,u1,u2,u3,u4,u5,u6,q1,q2,hi_set,lo_set,s79,F79,qda,qc6,qaj,List.length_cons,List.length_nil,Nat.reduceAdd,Nat.le_refl,Nat.reduceLeDiff,Nat.reduceLT,true_and,and_true,↓qax,↓qay,↓qa0,↓qaz,↓qcs,↓qbj,↓qa1,↓qcl,↓qb3,↓qci,↓qcb,↓qce,↓qcf,↓qb4,↓qcd,↓qcj,↓qb5,↓qcg,↓qch,↓qb6,↓qcc,↓qca,↓qb9,↓qb8,↓qb7,↓qa5,↓qbc,↓qa6,↓qbd,↓qa7,↓qbe,↓qa8,↓qbf,↓qa9,↓qbg,↓qba,↓qbh,↓qbb,↓qbi,↓qb2,↓qck,↓qfc,↓qco,↓qcp,↓qcq,↓qcn,↓qcm,↓qbm,↓qbn,↓qb0,↓qbv,↓qbq,↓qbu,↓qbz,↓qbw,↓qby,↓qbx,↓qbr,↓qbp,↓qb1,↓qbs,↓qbt,↓qbo,↓qez,↓qey,↓qe3,↓qe5,↓qe4,↓qex,↓qew,↓qet,↓qeu,↓qe2,↓qe1,↓qe0,qc5,↓qeq,↓qer,↓qev,↓qc4,↓qc2,↓qc3,↓qe7,↓qe8,↓qe9,↓qe6,qaa,↓qes,↓qef,↓qeg,↓qfb,↓qfa,↓qei,↓qdk,↓qds,↓qd9,↓qea,↓qen,↓qeo,↓qdo,↓qdp,↓qdr,↓qdq,↓qdx,↓qep,↓qdv,↓qej,↓qdn,↓qed,↓qek,↓qel,↓qem,↓qd1,↓qd0,↓qd2,↓qd3,↓qd5,↓qdz,↓qd6,↓qd8,↓qd7,↓qdl,↓qdm,↓qdy,↓qaw,↓qdw,↓qee,↓qec,↓qdj,↓qeh,↓qeb,↓qd4,qav,List.drop_zero,Nat.sub_zero,qcy,qct,qcu,qdh,qat,qas,qaf,List.map_cons,List.map_nil,List.zip_cons_cons,List.zip_nil_right,List.zip_nil_left,qau,evs,evp,mkB,repB,blen,qae,qad,qac,qab,qc1,qc0,qdg,qdi,qde,qdf,qcx,qcz,qcv,qcw,↓qdc,↓qdb,↓qdd,↓qah,↓qag,↓qai,↓retQ,res,resAll,resOne,kill,apartOk,exp,injV,injB,pur,purs,purR,pursR,List.set_cons_zero,List.set_cons_succ,List.length_cons,List.length_nil,List.cons_append,List.nil_append,List.append_nil,List.append_assoc,List.length_append,List.reduceReplicate,Nat.reduceAdd,Nat.reduceMul,Nat.reduceSub,Nat.reduceEqDiff,Nat.reduceLT,Nat.zero_add,Nat.add_zero,Nat.mul_one,Int.reduceToNat,Int.toNat_natCast,Int.cast_ofNat_Int,Int.reduceLE,Int.reduceLT,Int.reduceEq,reduceCtorEq,↓reduceIte,Bool.true_eq_false,Bool.false_eq_true,Bool.not_true,Bool.not_false,true_and,and_true,and_assoc,qaj,sub1,qc8,qc7,qc9,List.length_replicate,Nat.le_refl,false_implies,true_implies,ne_eq,not_true_eq_false,not_false_eq_true,decide_true,decide_false,decide_eq_true_eq,decide_eq_false_iff_not,Bool.not_eq_true',Bool.not_eq_false']
        repeat (refine And.intro (by omega) ?_)
        refine ⟨k + 1, hK2 _ (by omega) (by omega), Hd.same ?_⟩
        simp only [hs,↓qax,↓qay,↓qa0,↓qaz,↓qcs,↓qbj,↓qa1,↓qcl,↓qb3,↓qci,↓qcb,↓qce,↓qcf,↓qb4,↓qcd,↓qcj,↓qb5,↓qcg,↓qch,↓qb6,↓qcc,↓qca,↓qb9,↓qb8,↓qb7,↓qa5,↓qbc,↓qa6,↓qbd,↓qa7,↓qbe,↓qa8,↓qbf,↓qa9,↓qbg,↓qba,↓qbh,↓qbb,↓qbi,↓qb2,↓qck,↓qfc,↓qco,↓qcp,↓qcq,↓qcn,↓qcm,↓qbm,↓qbn,↓qb0,↓qbv,↓qbq,↓qbu,↓qbz,↓qbw,↓qby,↓qbx,↓qbr,↓qbp,↓qb1,↓qbs,↓qbt,↓qbo,↓qez,↓qey,↓qe3,↓qe5,↓qe4,↓qex,↓qew,↓qet,↓qeu,↓qe2,↓qe1,↓qe0,qc5,↓qeq,↓qer,↓qev,↓qc4,↓qc2,↓qc3,↓qe7,↓qe8,↓qe9,↓qe6,qaa,↓qes,↓qef,↓qeg,↓qfb,↓qfa,↓qei,↓qdk,↓qds,↓qd9,↓qea,↓qen,↓qeo,↓qdo,↓qdp,↓qdr,↓qdq,↓qdx,↓qep,↓qdv,↓qej,↓qdn,↓qed,↓qek,↓qel,↓qem,↓qd1,↓qd0,↓qd2,↓qd3,↓qd5,↓qdz,↓qd6,↓qd8,↓qd7,↓qdl,↓qdm,↓qdy,↓qaw,↓qdw,↓qee,↓qec,↓qdj,↓qeh,↓qeb,↓qd4,qav,List.drop_zero,Nat.sub_zero,qcy,qct,qcu,qdh,qat,qas,qaf,List.map_cons,List.map_nil,List.zip_cons_cons,List.zip_nil_right,List.zip_nil_left,qau,evs,evp,mkB,repB,blen,qae,qad,qac,qab,qc1,qc0,qdg,qdi,qde,qdf,qcx,qcz,qcv,qcw,↓qdc,↓qdb,↓qdd,↓qah,↓qag,↓qai,↓retQ,res,resAll,resOne,kill,apartOk,exp,injV,injB,pur,purs,purR,pursR,List.set_cons_zero,List.set_cons_succ,List.length_cons,List.length_nil,List.cons_append,List.nil_append,List.append_nil,List.append_assoc,List.length_append,List.reduceReplicate,Nat.reduceAdd,Nat.reduceMul,Nat.reduceSub,Nat.reduceEqDiff,Nat.reduceLT,Nat.zero_add,Nat.add_zero,Nat.mul_one,Int.reduceToNat,Int.toNat_natCast,Int.cast_ofNat_Int,Int.reduceLE,Int.reduceLT,Int.reduceEq,reduceCtorEq,↓reduceIte,Bool.true_eq_false,Bool.false_eq_true,Bool.not_true,Bool.not_false,true_and,and_true,and_assoc,qaj,sub1,qc8,qc7,qc9,List.length_replicate,Nat.le_refl,false_implies,true_implies,ne_eq,not_true_eq_false,not_false_eq_true,decide_true,decide_false,decide_eq_true_eq,decide_eq_false_iff_not,Bool.not_eq_true',Bool.not_eq_false']
      · have c3 : ¬ (4 : Int) < ((i + k : Nat) : Int) := by omega
        rw [w0 h4] at hz pm
        simp only [c1,c2,c3,wi,wk,wik,hxl,hyl,hhl,hll,hxx,hz,pm,tmod5,hj5,hh,hlw,u1,u2,u3,u4,u5,u6,q1,q2,hi_set,lo_set,s79,F79,qda,qc6,qaj,List.length_cons,List.length_nil,Nat.reduceAdd,Nat.le_refl,Nat.reduceLeDiff,Nat.reduceLT,true_and,and_true,↓qax,↓qay,↓qa0,↓qaz,↓qcs,↓qbj,↓qa1,↓qcl,↓qb3,↓qci,↓qcb,↓qce,↓qcf,↓qb4,↓qcd,↓qcj,↓qb5,↓qcg,↓qch,↓qb6,↓qcc,↓qca,↓qb9,↓qb8,↓qb7,↓qa5,↓qbc,↓qa6,↓qbd,↓qa7,↓qbe,↓qa8,↓qbf,↓qa9,↓qbg,↓qba,↓qbh,↓qbb,↓qbi,↓qb2,↓qck,↓qfc,↓qco,↓qcp,↓qcq,↓qcn,↓qcm,↓qbm,↓qbn,↓qb0,↓qbv,↓qbq,↓qbu,↓qbz,↓qbw,↓qby,↓qbx,↓qbr,↓qbp,↓qb1,↓qbs,↓qbt,↓qbo,↓qez,↓qey,↓qe3,↓qe5,↓qe4,↓qex,↓qew,↓qet,↓qeu,↓qe2,↓qe1,↓qe0,qc5,↓qeq,↓qer,↓qev,↓qc4,↓qc2,↓qc3,↓qe7,↓qe8,↓qe9,↓qe6,qaa,↓qes,↓qef,↓qeg,↓qfb,↓qfa,↓qei,↓qdk,↓qds,↓qd9,↓qea,↓qen,↓qeo,↓qdo,↓qdp,↓qdr,↓qdq,↓qdx,↓qep,↓qdv,↓qej,↓qdn,↓qed,↓qek,↓qel,↓qem,↓qd1,↓qd0,↓qd2,↓qd3,↓qd5,↓qdz,↓qd6,↓qd8,↓qd7,↓qdl,↓qdm,↓qdy,↓qaw,↓qdw,↓qee,↓qec,↓qdj,↓qeh,↓qeb,↓qd4,qav,List.drop_zero,Nat.sub_zero,qcy,qct,qcu,qdh,qat,qas,qaf,List.map_cons,List.map_nil,List.zip_cons_cons,List.zip_nil_right,List.zip_nil_left,qau,evs,evp,mkB,repB,blen,qae,qad,qac,qab,qc1,qc0,qdg,qdi,qde,qdf,qcx,qcz,qcv,qcw,↓qdc,↓qdb,↓qdd,↓qah,↓qag,↓qai,↓retQ,res,resAll,resOne,kill,apartOk,exp,injV,injB,pur,purs,purR,pursR,List.set_cons_zero,List.set_cons_succ,List.length_cons,List.length_nil,List.cons_append,List.nil_append,List.append_nil,List.append_assoc,List.length_append,List.reduceReplicate,Nat.reduceAdd,Nat.reduceMul,Nat.reduceSub,Nat.reduceEqDiff,Nat.reduceLT,Nat.zero_add,Nat.add_zero,Nat.mul_one,Int.reduceToNat,Int.toNat_natCast,Int.cast_ofNat_Int,Int.reduceLE,Int.reduceLT,Int.reduceEq,reduceCtorEq,↓reduceIte,Bool.true_eq_false,Bool.false_eq_true,Bool.not_true,Bool.not_false,true_and,and_true,and_assoc,qaj,sub1,qc8,qc7,qc9,List.length_replicate,Nat.le_refl,false_implies,true_implies,ne_eq,not_true_eq_false,not_false_eq_true,decide_true,decide_false,decide_eq_true_eq,decide_eq_false_iff_not,Bool.not_eq_true',Bool.not_eq_false']
        repeat (refine And.intro (by omega) ?_)
        refine ⟨k + 1, hK2 _ (by omega) (by omega), Hd.same ?_⟩
        simp only [hs,↓qax,↓qay,↓qa0,↓qaz,↓qcs,↓qbj,↓qa1,↓qcl,↓qb3,↓qci,↓qcb,↓qce,↓qcf,↓qb4,↓qcd,↓qcj,↓qb5,↓qcg,↓qch,↓qb6,↓qcc,↓qca,↓qb9,↓qb8,↓qb7,↓qa5,↓qbc,↓qa6,↓qbd,↓qa7,↓qbe,↓qa8,↓qbf,↓qa9,↓qbg,↓qba,↓qbh,↓qbb,↓qbi,↓qb2,↓qck,↓qfc,↓qco,↓qcp,↓qcq,↓qcn,↓qcm,↓qbm,↓qbn,↓qb0,↓qbv,↓qbq,↓qbu,↓qbz,↓qbw,↓qby,↓qbx,↓qbr,↓qbp,↓qb1,↓qbs,↓qbt,↓qbo,↓qez,↓qey,↓qe3,↓qe5,↓qe4,↓qex,↓qew,↓qet,↓qeu,↓qe2,↓qe1,↓qe0,qc5,↓qeq,↓qer,↓qev,↓qc4,↓qc2,↓qc3,↓qe7,↓qe8,↓qe9,↓qe6,qaa,↓qes,↓qef,↓qeg,↓qfb,↓qfa,↓qei,↓qdk,↓qds,↓qd9,↓qea,↓qen,↓qeo,↓qdo,↓qdp,↓qdr,↓qdq,↓qdx,↓qep,↓qdv,↓qej,↓qdn,↓qed,↓qek,↓qel,↓qem,↓qd1,↓qd0,↓qd2,↓qd3,↓qd5,↓qdz,↓qd6,↓qd8,↓qd7,↓qdl,↓qdm,↓qdy,↓qaw,↓qdw,↓qee,↓qec,↓qdj,↓qeh,↓qeb,↓qd4,qav,List.drop_zero,Nat.sub_zero,qcy,qct,qcu,qdh,qat,qas,qaf,List.map_cons,List.map_nil,List.zip_cons_cons,List.zip_nil_right,List.zip_nil_left,qau,evs,evp,mkB,repB,blen,qae,qad,qac,qab,qc1,qc0,qdg,qdi,qde,qdf,qcx,qcz,qcv,qcw,↓qdc,↓qdb,↓qdd,↓qah,↓qag,↓qai,↓retQ,res,resAll,resOne,kill,apartOk,exp,injV,injB,pur,purs,purR,pursR,List.set_cons_zero,List.set_cons_succ,List.length_cons,List.length_nil,List.cons_append,List.nil_append,List.append_nil,List.append_assoc,List.length_append,List.reduceReplicate,Nat.reduceAdd,Nat.reduceMul,Nat.reduceSub,Nat.reduceEqDiff,Nat.reduceLT,Nat.zero_add,Nat.add_zero,Nat.mul_one,Int.reduceToNat,Int.toNat_natCast,Int.cast_ofNat_Int,Int.reduceLE,Int.reduceLT,Int.reduceEq,reduceCtorEq,↓reduceIte,Bool.true_eq_false,Bool.false_eq_true,Bool.not_true,Bool.not_false,true_and,and_true,and_assoc,qaj,sub1,qc8,qc7,qc9,List.length_replicate,Nat.le_refl,false_implies,true_implies,ne_eq,not_true_eq_false,not_false_eq_true,decide_true,decide_false,decide_eq_true_eq,decide_eq_false_iff_not,Bool.not_eq_true',Bool.not_eq_false']
    · obtain rfl : k = 5 := by omega
      have c2 : ¬((5 : Nat) : Int) < 5 := by omega
      simp only [c2,wi,qda,qc6,qaj,List.length_cons,List.length_nil,Nat.reduceAdd,Nat.le_refl,Nat.reduceLeDiff,Nat.reduceLT,true_and,and_true,↓qax,↓qay,↓qa0,↓qaz,↓qcs,↓qbj,↓qa1,↓qcl,↓qb3,↓qci,↓qcb,↓qce,↓qcf,↓qb4,↓qcd,↓qcj,↓qb5,↓qcg,↓qch,↓qb6,↓qcc,↓qca,↓qb9,↓qb8,↓qb7,↓qa5,↓qbc,↓qa6,↓qbd,↓qa7,↓qbe,↓qa8,↓qbf,↓qa9,↓qbg,↓qba,↓qbh,↓qbb,↓qbi,↓qb2,↓qck,↓qfc,↓qco,↓qcp,↓qcq,↓qcn,↓qcm,↓qbm,↓qbn,↓qb0,↓qbv,↓qbq,↓qbu,↓qbz,↓qbw,↓qby,↓qbx,↓qbr,↓qbp,↓qb1,↓qbs,↓qbt,↓qbo,↓qez,↓qey,↓qe3,↓qe5,↓qe4,↓qex,↓qew,↓qet,↓qeu,↓qe2,↓qe1,↓qe0,qc5,↓qeq,↓qer,↓qev,↓qc4,↓qc2,↓qc3,↓qe7,↓qe8,↓qe9,↓qe6,qaa,↓qes,↓qef,↓qeg,↓qfb,↓qfa,↓qei,↓qdk,↓qds,↓qd9,↓qea,↓qen,↓qeo,↓qdo,↓qdp,↓qdr,↓qdq,↓qdx,↓qep,↓qdv,↓qej,↓qdn,↓qed,↓qek,↓qel,↓qem,↓qd1,↓qd0,↓qd2,↓qd3,↓qd5,↓qdz,↓qd6,↓qd8,↓qd7,↓qdl,↓qdm,↓qdy,↓qaw,↓qdw,↓qee,↓qec,↓qdj,↓qeh,↓qeb,↓qd4,qav,List.drop_zero,Nat.sub_zero,qcy,qct,qcu,qdh,qat,qas,qaf,List.map_cons,List.map_nil,List.zip_cons_cons,List.zip_nil_right,List.zip_nil_left,qau,evs,evp,mkB,repB,blen,qae,qad,qac,qab,qc1,qc0,qdg,qdi,qde,qdf,qcx,qcz,qcv,qcw,↓qdc,↓qdb,↓qdd,↓qah,↓qag,↓qai,↓retQ,res,resAll,resOne,kill,apartOk,exp,injV,injB,pur,purs,purR,pursR,List.set_cons_zero,List.set_cons_succ,List.length_cons,List.length_nil,List.cons_append,List.nil_append,List.append_nil,List.append_assoc,List.length_append,List.reduceReplicate,Nat.reduceAdd,Nat.reduceMul,Nat.reduceSub,Nat.reduceEqDiff,Nat.reduceLT,Nat.zero_add,Nat.add_zero,Nat.mul_one,Int.reduceToNat,Int.toNat_natCast,Int.cast_ofNat_Int,Int.reduceLE,Int.reduceLT,Int.reduceEq,reduceCtorEq,↓reduceIte,Bool.true_eq_false,Bool.false_eq_true,Bool.not_true,Bool.not_false,true_and,and_true,and_assoc,qaj,sub1,qc8,qc7,qc9,List.length_replicate,Nat.le_refl,false_implies,true_implies,ne_eq,not_true_eq_false,not_false_eq_true,decide_true,decide_false,decide_eq_true_eq,decide_eq_false_iff_not,Bool.not_eq_true',Bool.not_eq_false']
      refine ⟨i + 1, hK _ (by omega) (by omega), Hd.same ?_⟩
      simp only [hj,↓qax,↓qay,↓qa0,↓qaz,↓qcs,↓qbj,↓qa1,↓qcl,↓qb3,↓qci,↓qcb,↓qce,↓qcf,↓qb4,↓qcd,↓qcj,↓qb5,↓qcg,↓qch,↓qb6,↓qcc,↓qca,↓qb9,↓qb8,↓qb7,↓qa5,↓qbc,↓qa6,↓qbd,↓qa7,↓qbe,↓qa8,↓qbf,↓qa9,↓qbg,↓qba,↓qbh,↓qbb,↓qbi,↓qb2,↓qck,↓qfc,↓qco,↓qcp,↓qcq,↓qcn,↓qcm,↓qbm,↓qbn,↓qb0,↓qbv,↓qbq,↓qbu,↓qbz,↓qbw,↓qby,↓qbx,↓qbr,↓qbp,↓qb1,↓qbs,↓qbt,↓qbo,↓qez,↓qey,↓qe3,↓qe5,↓qe4,↓qex,↓qew,↓qet,↓qeu,↓qe2,↓qe1,↓qe0,qc5,↓qeq,↓qer,↓qev,↓qc4,↓qc2,↓qc3,↓qe7,↓qe8,↓qe9,↓qe6,qaa,↓qes,↓qef,↓qeg,↓qfb,↓qfa,↓qei,↓qdk,↓qds,↓qd9,↓qea,↓qen,↓qeo,↓qdo,↓qdp,↓qdr,↓qdq,↓qdx,↓qep,↓qdv,↓qej,↓qdn,↓qed,↓qek,↓qel,↓qem,↓qd1,↓qd0,↓qd2,↓qd3,↓qd5,↓qdz,↓qd6,↓qd8,↓qd7,↓qdl,↓qdm,↓qdy,↓qaw,↓qdw,↓qee,↓qec,↓qdj,↓qeh,↓qeb,↓qd4,qav,List.drop_zero,Nat.sub_zero,qcy,qct,qcu,qdh,qat,qas,qaf,List.map_cons,List.map_nil,List.zip_cons_cons,List.zip_nil_right,List.zip_nil_left,qau,evs,evp,mkB,repB,blen,qae,qad,qac,qab,qc1,qc0,qdg,qdi,qde,qdf,qcx,qcz,qcv,qcw,↓qdc,↓qdb,↓qdd,↓qah,↓qag,↓qai,↓retQ,res,resAll,resOne,kill,apartOk,exp,injV,injB,pur,purs,purR,pursR,List.set_cons_zero,List.set_cons_succ,List.length_cons,List.length_nil,List.cons_append,List.nil_append,List.append_nil,List.append_assoc,List.length_append,List.reduceReplicate,Nat.reduceAdd,Nat.reduceMul,Nat.reduceSub,Nat.reduceEqDiff,Nat.reduceLT,Nat.zero_add,Nat.add_zero,Nat.mul_one,Int.reduceToNat,Int.toNat_natCast,Int.cast_ofNat_Int,Int.reduceLE,Int.reduceLT,Int.reduceEq,reduceCtorEq,↓reduceIte,Bool.true_eq_false,Bool.false_eq_true,Bool.not_true,Bool.not_false,true_and,and_true,and_assoc,qaj,sub1,qc8,qc7,qc9,List.length_replicate,Nat.le_refl,false_implies,true_implies,ne_eq,not_true_eq_false,not_false_eq_true,decide_true,decide_false,decide_eq_true_eq,decide_eq_false_iff_not,Bool.not_eq_true',Bool.not_eq_false']
  · obtain rfl : i = 5 := by omega
    have c1 : ¬((5 : Nat) : Int) < 5 := by omega
    have hm : mulF xs ys = fin (chn (cols xs ys) 5) := rfl
    have hcc : cols xs ys = itr (colrow xs ys) [0, 0, 0, 0, 0] 5 := rfl
    obtain ⟨c0, hc0⟩ : ∃ c0, itr (colrow xs ys) [0, 0, 0, 0, 0] 5 = c0 := ⟨_, rfl⟩
    rw [hc0] at hC hcc
    rw [hcc] at hm
    have hC : Cl (25 * Mx) c0 := hC
    rw [hc0]
    simp only [c1,hxl,hyl,qda,qc6,qaj,List.length_cons,List.length_nil,Nat.reduceAdd,Nat.le_refl,Nat.reduceLeDiff,Nat.reduceLT,true_and,and_true,↓qax,↓qay,↓qa0,↓qaz,↓qcs,↓qbj,↓qa1,↓qcl,↓qb3,↓qci,↓qcb,↓qce,↓qcf,↓qb4,↓qcd,↓qcj,↓qb5,↓qcg,↓qch,↓qb6,↓qcc,↓qca,↓qb9,↓qb8,↓qb7,↓qa5,↓qbc,↓qa6,↓qbd,↓qa7,↓qbe,↓qa8,↓qbf,↓qa9,↓qbg,↓qba,↓qbh,↓qbb,↓qbi,↓qb2,↓qck,↓qfc,↓qco,↓qcp,↓qcq,↓qcn,↓qcm,↓qbm,↓qbn,↓qb0,↓qbv,↓qbq,↓qbu,↓qbz,↓qbw,↓qby,↓qbx,↓qbr,↓qbp,↓qb1,↓qbs,↓qbt,↓qbo,↓qez,↓qey,↓qe3,↓qe5,↓qe4,↓qex,↓qew,↓qet,↓qeu,↓qe2,↓qe1,↓qe0,qc5,↓qeq,↓qer,↓qev,↓qc4,↓qc2,↓qc3,↓qe7,↓qe8,↓qe9,↓qe6,qaa,↓qes,↓qef,↓qeg,↓qfb,↓qfa,↓qei,↓qdk,↓qds,↓qd9,↓qea,↓qen,↓qeo,↓qdo,↓qdp,↓qdr,↓qdq,↓qdx,↓qep,↓qdv,↓qej,↓qdn,↓qed,↓qek,↓qel,↓qem,↓qd1,↓qd0,↓qd2,↓qd3,↓qd5,↓qdz,↓qd6,↓qd8,↓qd7,↓qdl,↓qdm,↓qdy,↓qaw,↓qdw,↓qee,↓qec,↓qdj,↓qeh,↓qeb,↓qd4,qav,List.drop_zero,Nat.sub_zero,qcy,qct,qcu,qdh,qat,qas,qaf,List.map_cons,List.map_nil,List.zip_cons_cons,List.zip_nil_right,List.zip_nil_left,qau,evs,evp,mkB,repB,blen,qae,qad,qac,qab,qc1,qc0,qdg,qdi,qde,qdf,qcx,qcz,qcv,qcw,↓qdc,↓qdb,↓qdd,↓qah,↓qag,↓qai,↓retQ,res,resAll,resOne,kill,apartOk,exp,injV,injB,pur,purs,purR,pursR,List.set_cons_zero,List.set_cons_succ,List.length_cons,List.length_nil,List.cons_append,List.nil_append,List.append_nil,List.append_assoc,List.length_append,List.reduceReplicate,Nat.reduceAdd,Nat.reduceMul,Nat.reduceSub,Nat.reduceEqDiff,Nat.reduceLT,Nat.zero_add,Nat.add_zero,Nat.mul_one,Int.reduceToNat,Int.toNat_natCast,Int.cast_ofNat_Int,Int.reduceLE,Int.reduceLT,Int.reduceEq,reduceCtorEq,↓reduceIte,Bool.true_eq_false,Bool.false_eq_true,Bool.not_true,Bool.not_false,true_and,and_true,and_assoc,qaj,sub1,qc8,qc7,qc9,List.length_replicate,Nat.le_refl,false_implies,true_implies,ne_eq,not_true_eq_false,not_false_eq_true,decide_true,decide_false,decide_eq_true_eq,decide_eq_false_iff_not,Bool.not_eq_true',Bool.not_eq_false']
    refine awp_loopA (n := 142) hA [4, 5, 6, 14, 15, 74] (by decide +kernel) (fun i : Nat => [.ptr 6 0, .ptr 7 0, .ptr 8 0, .ptr 9 0, .int .u64 (chn c0 i).c, .int .i64 i])
      (fun i => [.dead, .dead, .dead, .dead, .ints false .u64 xs, .ints false .u64 ys, .ints false .u64 [0, 0, 0, 0, 0], .ints false .u64 (hi64 (chn c0 i).cs), .ints false .u64 (lo64 (chn c0 i).cs), .ints false .u64 (chn c0 i).o]) (fun i => i ≤ 5) (fun i => 5 - i) 0 ?_ (by omega) ?_
    · refine Hd.same ?_
      simp only [chn,itr,↓qax,↓qay,↓qa0,↓qaz,↓qcs,↓qbj,↓qa1,↓qcl,↓qb3,↓qci,↓qcb,↓qce,↓qcf,↓qb4,↓qcd,↓qcj,↓qb5,↓qcg,↓qch,↓qb6,↓qcc,↓qca,↓qb9,↓qb8,↓qb7,↓qa5,↓qbc,↓qa6,↓qbd,↓qa7,↓qbe,↓qa8,↓qbf,↓qa9,↓qbg,↓qba,↓qbh,↓qbb,↓qbi,↓qb2,↓qck,↓qfc,↓qco,↓qcp,↓qcq,↓qcn,↓qcm,↓qbm,↓qbn,↓qb0,↓qbv,↓qbq,↓qbu,↓qbz,↓qbw,↓qby,↓qbx,↓qbr,↓qbp,↓qb1,↓qbs,↓qbt,↓qbo,↓qez,↓qey,↓qe3,↓qe5,↓qe4,↓qex,↓qew,↓qet,↓qeu,↓qe2,↓qe1,↓qe0,qc5,↓qeq,↓qer,↓qev,↓qc4,↓qc2,↓qc3,↓qe7,↓qe8,↓qe9,↓qe6,qaa,↓qes,↓qef,↓qeg,↓qfb,↓qfa,↓qei,↓qdk,↓qds,↓qd9,↓qea,↓qen,↓qeo,↓qdo,↓qdp,↓qdr,↓qdq,↓qdx,↓qep,↓qdv,↓qej,↓qdn,↓qed,↓qek,↓qel,↓qem,↓qd1,↓qd0,↓qd2,↓qd3,↓qd5,↓qdz,↓qd6,↓qd8,↓qd7,↓qdl,↓qdm,↓qdy,↓qaw,↓qdw,↓qee,↓qec,↓qdj,↓qeh,↓qeb,↓qd4,qav,List.drop_zero,Nat.sub_zero,qcy,qct,qcu,qdh,qat,qas,qaf,List.map_cons,List.map_nil,List.zip_cons_cons,List.zip_nil_right,List.zip_nil_left,qau,evs,evp,mkB,repB,blen,qae,qad,qac,qab,qc1,qc0,qdg,qdi,qde,qdf,qcx,qcz,qcv,qcw,↓qdc,↓qdb,↓qdd,↓qah,↓qag,↓qai,↓retQ,res,resAll,resOne,kill,apartOk,exp,injV,injB,pur,purs,purR,pursR,List.set_cons_zero,List.set_cons_succ,List.length_cons,List.length_nil,List.cons_append,List.nil_append,List.append_nil,List.append_assoc,List.length_append,List.reduceReplicate,Nat.reduceAdd,Nat.reduceMul,Nat.reduceSub,Nat.reduceEqDiff,Nat.reduceLT,Nat.zero_add,Nat.add_zero,Nat.mul_one,Int.reduceToNat,Int.toNat_natCast,Int.cast_ofNat_Int,Int.reduceLE,Int.reduceLT,Int.reduceEq,reduceCtorEq,↓reduceIte,Bool.true_eq_false,Bool.false_eq_true,Bool.not_true,Bool.not_false,true_and,and_true,and_assoc,qaj,sub1,qc8,qc7,qc9,List.length_replicate,Nat.le_refl,false_implies,true_implies,ne_eq,not_true_eq_false,not_false_eq_true,decide_true,decide_false,decide_eq_true_eq,decide_eq_false_iff_not,Bool.not_eq_true',Bool.not_eq_false']
    clear hi hK K
    intro i hi K hK
    obtain ⟨h1, h2, ⟨h3, h3'⟩, h4⟩ := chn_inv hC i
    have hcl := h1.1
    have hol := h2.1
    by_cases hlt : i < 5
    · have c1 : (i : Int) < 5 := by omega
      have wi : Go.IntKind.i64.wrap ((i : Int) + 1) = ((i + 1 : Nat) : Int) := by rw [wrap_i64]; omega
      have hs : chn c0 (i + 1) = chst (chn c0 i) i := rfl
      have hbd := hC.2 i
      have e4 := h4 i (Nat.le_refl _)
      obtain ⟨⟨cs, o, c⟩, hcs⟩ : ∃ s, chn c0 i = s := ⟨_, rfl⟩
      rw [hcs] at hs h3 h3' hcl hol e4
      rw [hcs]
      simp only at h3 h3' hcl hol e4
      rw [← e4] at hbd
      simp only [chst] at hs
      have hhl : (hi64 cs).length = 5 := by rw [hi_len, hcl]
      have hll : (lo64 cs).length = 5 := by rw [lo_len, hcl]
      have hh := hi_get (cs := cs) (j := i) (by omega)
      have hlw := lo_get (cs := cs) (j := i) (by omega)
      obtain ⟨v, hv⟩ : ∃ v, getI cs i = v := ⟨_, rfl⟩
      rw [hv] at hh hlw hbd hs
      unfold Mx at hbd
      have u1 : v % 18446744073709551616 + c + 0 = v % 18446744073709551616 + c := Int.add_zero _
      have u2 : (v % 18446744073709551616 + c) % 18446744073709551616 = (v + c) % 18446744073709551616 := by omega
      have u4 : Go.IntKind.u64.wrap (v / 18446744073709551616 + (v % 18446744073709551616 + c) / 18446744073709551616) = (v + c) / 18446744073709551616 := by rw [wrap_u64]; omega
      obtain ⟨u, hu⟩ : ∃ u, v + c = u := ⟨_, rfl⟩
      have hub : 0 ≤ u ∧ u < 20769187434139310514121985316880384 := by omega
      have u5 : (0 : Int) ≤ v % 18446744073709551616 := by omega
      rw [hu] at u2 u4 hs
      have g1 : getI ((lo64 cs).set i (u % 18446744073709551616)) i = u % 18446744073709551616 := by rw [getI_set _ _ _ _ (by omega), if_pos rfl]
      have g2 : getI ((hi64 cs).set i (u / 18446744073709551616)) i = u / 18446744073709551616 := by rw [getI_set _ _ _ _ (by omega), if_pos rfl]
      rw [lo_set] at g1
      rw [hi_set] at g2
      have hhl' : (hi64 (cs.set i u)).length = 5 := by rw [hi_len, List.length_set, hcl]
      have hll' : (lo64 (cs.set i u)).length = 5 := by rw [lo_len, List.length_set, hcl]
      have u7 : bAnd .u64 (u % 18446744073709551616) 2251799813685247 = u % 2251799813685248 := by rw [bAnd_51 (by omega) (by omega)]; omega
      have u8 : iShr .u64 (u % 18446744073709551616) 51 = u % 18446744073709551616 / 2251799813685248 := shr_51 _
      have u9 : bOr .u64 (iShl .u64 (u / 18446744073709551616) 13) (u % 18446744073709551616 / 2251799813685248) = u / 2251799813685248 := by
        rw [show bOr .u64 (iShl .u64 (u / 18446744073709551616) 13) (u % 18446744073709551616 / 2251799813685248) = u / 18446744073709551616 * 2 ^ 13 + u % 18446744073709551616 / 2251799813685248 from or_low (m := 13) (by omega) (by simp only [Nat.reduceSub, Int.reducePow]; omega) (by omega) (by omega) (by decide)]
        omega
      have q1 : (0 : Int) ≤ 0 := by decide
      have q2 : (0 : Int) ≤ 1 := by decide
      simp only [c1,wi,hhl,hll,hhl',hll',hol,hh,hlw,u1,u2,u4,u5,u7,u8,u9,h3,g1,g2,q1,q2,hi_set,lo_set,qda,qc6,qaj,List.length_cons,List.length_nil,Nat.reduceAdd,Nat.le_refl,Nat.reduceLeDiff,Nat.reduceLT,true_and,and_true,↓qax,↓qay,↓qa0,↓qaz,↓qcs,↓qbj,↓qa1,↓qcl,↓qb3,↓qci,↓qcb,↓qce,↓qcf,↓qb4,↓qcd,↓qcj,↓qb5,↓qcg,↓qch,↓qb6,↓qcc,↓qca,↓qb9,↓qb8,↓qb7,↓qa5,↓qbc,↓qa6,↓qbd,↓qa7,↓qbe,↓qa8,↓qbf,↓qa9,↓qbg,↓qba,↓qbh,↓qbb,↓qbi,↓qb2,↓qck,↓qfc,↓qco,↓qcp,↓qcq,↓qcn,↓qcm,↓qbm,↓qbn,↓qb0,↓qbv,↓qbq,↓qbu,↓qbz,↓qbw,↓qby,↓qbx,↓qbr,↓qbp,↓qb1,↓qbs,↓qbt,↓qbo,↓qez,↓qey,↓qe3,↓qe5,↓qe4,↓qex,↓qew,↓qet,↓qeu,↓qe2,↓qe1,↓qe0,qc5,↓qeq,↓qer,↓qev,↓qc4,↓qc2,↓qc3,↓qe7,↓qe8,↓qe9,↓qe6,qaa,↓qes,↓qef,↓qeg,↓qfb,↓qfa,↓qei,↓qdk,↓qds,↓qd9,↓qea,↓qen,↓qeo,↓qdo,↓qdp,↓qdr,↓qdq,↓qdx,↓qep,↓qdv,↓qej,↓qdn,↓qed,↓qek,↓qel,↓qem,↓qd1,↓qd0,↓qd2,↓qd3,↓qd5,↓qdz,↓qd6,↓qd8,↓qd7,↓qdl,↓qdm,↓qdy,↓qaw,↓qdw,↓qee,↓qec,↓qdj,↓qeh,↓qeb,↓qd4,qav,List.drop_zero,Nat.sub_zero,qcy,qct,qcu,qdh,qat,qas,qaf,List.map_cons,List.map_nil,List.zip_cons_cons,List.zip_nil_right,List.zip_nil_left,qau,evs,evp,mkB,repB,blen,qae,qad,qac,qab,qc1,qc0,qdg,qdi,qde,qdf,qcx,qcz,qcv,qcw,↓qdc,↓qdb,↓qdd,↓qah,↓qag,↓qai,↓retQ,res,resAll,resOne,kill,apartOk,exp,injV,injB,pur,purs,purR,pursR,List.set_cons_zero,List.set_cons_succ,List.length_cons,List.length_nil,List.cons_append,List.nil_append,List.append_nil,List.append_assoc,List.length_append,List.reduceReplicate,Nat.reduceAdd,Nat.reduceMul,Nat.reduceSub,Nat.reduceEqDiff,Nat.reduceLT,Nat.zero_add,Nat.add_zero,Nat.mul_one,Int.reduceToNat,Int.toNat_natCast,Int.cast_ofNat_Int,Int.reduceLE,Int.reduceLT,Int.reduceEq,reduceCtorEq,↓reduceIte,Bool.true_eq_false,Bool.false_eq_true,Bool.not_true,Bool.not_false,true_and,and_true,and_assoc,qaj,sub1,qc8,qc7,qc9,List.length_replicate,Nat.le_refl,false_implies,true_implies,ne_eq,not_true_eq_false,not_false_eq_true,decide_true,decide_false,decide_eq_true_eq,decide_eq_false_iff_not,Bool.not_eq_true',Bool.not_eq_false']
      repeat (refine And.intro (by omega) ?_)
      refine ⟨i + 1, hK _ (by omega) (by omega), Hd.same ?_⟩
      simp only [hs,↓qax,↓qay,↓qa0,↓qaz,↓qcs,↓qbj,↓qa1,↓qcl,↓qb3,↓qci,↓qcb,↓qce,↓qcf,↓qb4,↓qcd,↓qcj,↓qb5,↓qcg,↓qch,↓qb6,↓qcc,↓qca,↓qb9,↓qb8,↓qb7,↓qa5,↓qbc,↓qa6,↓qbd,↓qa7,↓qbe,↓qa8,↓qbf,↓qa9,↓qbg,↓qba,↓qbh,↓qbb,↓qbi,↓qb2,↓qck,↓qfc,↓qco,↓qcp,↓qcq,↓qcn,↓qcm,↓qbm,↓qbn,↓qb0,↓qbv,↓qbq,↓qbu,↓qbz,↓qbw,↓qby,↓qbx,↓qbr,↓qbp,↓qb1,↓qbs,↓qbt,↓qbo,↓qez,↓qey,↓qe3,↓qe5,↓qe4,↓qex,↓qew,↓qet,↓qeu,↓qe2,↓qe1,↓qe0,qc5,↓qeq,↓qer,↓qev,↓qc4,↓qc2,↓qc3,↓qe7,↓qe8,↓qe9,↓qe6,qaa,↓qes,↓qef,↓qeg,↓qfb,↓qfa,↓qei,↓qdk,↓qds,↓qd9,↓qea,↓qen,↓qeo,↓qdo,↓qdp,↓qdr,↓qdq,↓qdx,↓qep,↓qdv,↓qej,↓qdn,↓qed,↓qek,↓qel,↓qem,↓qd1,↓qd0,↓qd2,↓qd3,↓qd5,↓qdz,↓qd6,↓qd8,↓qd7,↓qdl,↓qdm,↓qdy,↓qaw,↓qdw,↓qee,↓qec,↓qdj,↓qeh,↓qeb,↓qd4,qav,List.drop_zero,Nat.sub_zero,qcy,qct,qcu,qdh,qat,qas,qaf,List.map_cons,List.map_nil,List.zip_cons_cons,List.zip_nil_right,List.zip_nil_left,qau,evs,evp,mkB,repB,blen,qae,qad,qac,qab,qc1,qc0,qdg,qdi,qde,qdf,qcx,qcz,qcv,qcw,↓qdc,↓qdb,↓qdd,↓qah,↓qag,↓qai,↓retQ,res,resAll,resOne,kill,apartOk,exp,injV,injB,pur,purs,purR,pursR,List.set_cons_zero,List.set_cons_succ,List.length_cons,List.length_nil,List.cons_append,List.nil_append,List.append_nil,List.append_assoc,List.length_append,List.reduceReplicate,Nat.reduceAdd,Nat.reduceMul,Nat.reduceSub,Nat.reduceEqDiff,Nat.reduceLT,Nat.zero_add,Nat.add_zero,Nat.mul_one,Int.reduceToNat,Int.toNat_natCast,Int.cast_ofNat_Int,Int.reduceLE,Int.reduceLT,Int.reduceEq,reduceCtorEq,↓reduceIte,Bool.true_eq_false,Bool.false_eq_true,Bool.not_true,Bool.not_false,true_and,and_true,and_assoc,qaj,sub1,qc8,qc7,qc9,List.length_replicate,Nat.le_refl,false_implies,true_implies,ne_eq,not_true_eq_false,not_false_eq_true,decide_true,decide_false,decide_eq_true_eq,decide_eq_false_iff_not,Bool.not_eq_true',Bool.not_eq_false']
    · obtain rfl : i = 5 := by omega
      have c1 : ¬((5 : Nat) : Int) < 5 := by omega
      obtain ⟨⟨cs, o, c⟩, hcs⟩ : ∃ s, chn c0 5 = s := ⟨_, rfl⟩
      rw [hcs] at h3 h3' hcl hol h2 hm
      rw [hcs]
      simp only [fin] at h3 h3' hcl hol h2 hm
      have o0 := h2.all (by decide) 0
      have o1 := h2.all (by decide) 1
      obtain ⟨a, ha⟩ : ∃ a, getI o 0 = a := ⟨_, rfl⟩
      obtain ⟨b, hb⟩ : ∃ b, getI o 1 = b := ⟨_, rfl⟩
      rw [ha] at hm o0
      rw [hb] at hm o1
      obtain ⟨T, hT⟩ : ∃ T, c * 19 + a = T := ⟨_, rfl⟩
      rw [hT] at hm
      have pm : preWW [.v (.int .u64 c), .v (.int .u64 19)] := ⟨c, 19, rfl, by omega, by omega, by omega, by omega⟩
      have v1 : c * 19 % 18446744073709551616 + a + 0 = c * 19 % 18446744073709551616 + a := Int.add_zero _
      have v2 : (c * 19 % 18446744073709551616 + a) % 18446744073709551616 = T % 18446744073709551616 := by omega
      have v3 : Go.IntKind.u64.wrap (c * 19 / 18446744073709551616 + (c * 19 % 18446744073709551616 + a) / 18446744073709551616) = T / 18446744073709551616 := by rw [wrap_u64]; omega
      have v4 : bAnd .u64 (T % 18446744073709551616) 2251799813685247 = T % 2251799813685248 := by rw [bAnd_51 (by omega) (by omega)]; omega
      have v5 : iShr .u64 (T % 18446744073709551616) 51 = T % 18446744073709551616 / 2251799813685248 := shr_51 _
      have v6 : bOr .u64 (iShl .u64 (T / 18446744073709551616) 13) (T % 18446744073709551616 / 2251799813685248) = T / 2251799813685248 := by
        rw [show bOr .u64 (iShl .u64 (T / 18446744073709551616) 13) (T % 18446744073709551616 / 2251799813685248) = T / 18446744073709551616 * 2 ^ 13 + T % 18446744073709551616 / 2251799813685248 from or_low (m := 13) (by omega) (by simp only [Nat.reduceSub, Int.reducePow]; omega) (by omega) (by omega) (by decide)]
        omega
      have v7 : Go.IntKind.u64.wrap (b + T / 2251799813685248) = b + T / 2251799813685248 := by rw [wrap_u64]; omega
      have v8 : (0 : Int) ≤ c * 19 % 18446744073709551616 := by omega
      have g1 : getI (o.set 0 (T % 2251799813685248)) 1 = b := by rw [getI_set _ _ _ _ (by omega), if_neg (by decide), hb]
      obtain ⟨w, hw⟩ : ∃ w, (o.set 0 (T % 2251799813685248)).set 1 (b + T / 2251799813685248) = w := ⟨_, rfl⟩
      rw [hw] at hm
      have hwF : Fv 9223372036854775808 w := by
        rw [← hw]
        refine ⟨by simp [hol], ?_⟩
        have hd := (h2.le (C := 9223372036854775808) (by decide)).2
        exact (hd.set 0 (by omega) (by omega)).set 1 (by omega) (by omega)
      have hwl := hwF.1
      have sw : sub w 0 5 = w := qda (by omega)
      have p1 : preC [.v (.ints .u64 w)] := ⟨w, rfl, hwF⟩
      have hcl' : (carryF w).length = 5 := carry_len hwl
      have sp : spl [0, 0, 0, 0, 0] 0 (carryF w) = carryF w := qc6 (by simp [hcl'])
      have q1 : (0 : Int) ≤ 0 := by decide
      have q2 : (0 : Int) ≤ 1 := by decide
      have q3 := o0.1
      simp only [s76, s79]
      simp only [c1,pm,hol,ha,v1,v2,v3,v4,v5,v6,v7,v8,g1,q1,q2,q3,hw,hwl,sw,p1,hcl',sp,hm,List.length_set,s76,s79,F76,F79,qda,qc6,qaj,List.length_cons,List.length_nil,Nat.reduceAdd,Nat.le_refl,Nat.reduceLeDiff,Nat.reduceLT,true_and,and_true,↓qax,↓qay,↓qa0,↓qaz,↓qcs,↓qbj,↓qa1,↓qcl,↓qb3,↓qci,↓qcb,↓qce,↓qcf,↓qb4,↓qcd,↓qcj,↓qb5,↓qcg,↓qch,↓qb6,↓qcc,↓qca,↓qb9,↓qb8,↓qb7,↓qa5,↓qbc,↓qa6,↓qbd,↓qa7,↓qbe,↓qa8,↓qbf,↓qa9,↓qbg,↓qba,↓qbh,↓qbb,↓qbi,↓qb2,↓qck,↓qfc,↓qco,↓qcp,↓qcq,↓qcn,↓qcm,↓qbm,↓qbn,↓qb0,↓qbv,↓qbq,↓qbu,↓qbz,↓qbw,↓qby,↓qbx,↓qbr,↓qbp,↓qb1,↓qbs,↓qbt,↓qbo,↓qez,↓qey,↓qe3,↓qe5,↓qe4,↓qex,↓qew,↓qet,↓qeu,↓qe2,↓qe1,↓qe0,qc5,↓qeq,↓qer,↓qev,↓qc4,↓qc2,↓qc3,↓qe7,↓qe8,↓qe9,↓qe6,qaa,↓qes,↓qef,↓qeg,↓qfb,↓qfa,↓qei,↓qdk,↓qds,↓qd9,↓qea,↓qen,↓qeo,↓qdo,↓qdp,↓qdr,↓qdq,↓qdx,↓qep,↓qdv,↓qej,↓qdn,↓qed,↓qek,↓qel,↓qem,↓qd1,↓qd0,↓qd2,↓qd3,↓qd5,↓qdz,↓qd6,↓qd8,↓qd7,↓qdl,↓qdm,↓qdy,↓qaw,↓qdw,↓qee,↓qec,↓qdj,↓qeh,↓qeb,↓qd4,qav,List.drop_zero,Nat.sub_zero,qcy,qct,qcu,qdh,qat,qas,qaf,List.map_cons,List.map_nil,List.zip_cons_cons,List.zip_nil_right,List.zip_nil_left,qau,evs,evp,mkB,repB,blen,qae,qad,qac,qab,qc1,qc0,qdg,qdi,qde,qdf,qcx,qcz,qcv,qcw,↓qdc,↓qdb,↓qdd,↓qah,↓qag,↓qai,↓retQ,res,resAll,resOne,kill,apartOk,exp,injV,injB,pur,purs,purR,pursR,List.set_cons_zero,List.set_cons_succ,List.length_cons,List.length_nil,List.cons_append,List.nil_append,List.append_nil,List.append_assoc,List.length_append,List.reduceReplicate,Nat.reduceAdd,Nat.reduceMul,Nat.reduceSub,Nat.reduceEqDiff,Nat.reduceLT,Nat.zero_add,Nat.add_zero,Nat.mul_one,Int.reduceToNat,Int.toNat_natCast,Int.cast_ofNat_Int,Int.reduceLE,Int.reduceLT,Int.reduceEq,reduceCtorEq,↓reduceIte,Bool.true_eq_false,Bool.false_eq_true,Bool.not_true,Bool.not_false,true_and,and_true,and_assoc,qaj,sub1,qc8,qc7,qc9,List.length_replicate,Nat.le_refl,false_implies,true_implies,ne_eq,not_true_eq_false,not_false_eq_true,decide_true,decide_false,decide_eq_true_eq,decide_eq_false_iff_not,Bool.not_eq_true',Bool.not_eq_false']
      repeat (refine And.intro (by omega) ?_)
      simp only [out, outs, out1, pur, and_self]
end Am
