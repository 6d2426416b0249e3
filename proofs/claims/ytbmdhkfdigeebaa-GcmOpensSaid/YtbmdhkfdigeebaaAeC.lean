/-
Working texts: contracts of functions, and the numbers behind them.
-/
import Derived.Test.YtbmdhkfdigeebaaBase
import Derived.Test.YtbmdhkfdigeebaaIrB
import Derived.Test.YtbmdhkfdigeebaaAeN
set_option linter.unusedSimpArgs false
set_option linter.unusedVariables false
set_option linter.unusedSectionVars false
set_option linter.unusedSimpArgs false
set_option linter.unusedVariables false
set_option maxRecDepth 20000
namespace Am
open Go.Proofs
/-! ### The reference's products -/
def byS (a b : Int) (n : Nat) (x : Int) : Int :=
  let x2 := if 255 < Go.IntKind.i64.wrap (x * 2) then bXor .i64 (Go.IntKind.i64.wrap (x * 2)) 283 else Go.IntKind.i64.wrap (x * 2)
  if bAnd .i64 (iShr .i64 b n) 1 = 1 then bXor .i64 x2 a else x2
def byG (a b : Int) : Nat → Int → Int
  | 0, x => x
  | n + 1, x => byG a b n (byS a b n x)
def preI2 (ds : List D) : Prop := ∃ x y, ds = [.v (.int .i64 x), .v (.int .i64 y)]
def F23 : List D → Out
  | [.v (.int _ x), .v (.int _ y)] => .one (.v (.int .i64 (byG x y 8 0)))
  | _ => bad
def s23 : Summ := sData [.v, .v] preI2 F23
set_option maxHeartbeats 2000000 in
theorem ok23 {g : List Blk} [Ge gl g] : SumOK Try.prog g 23 s23 ∧ SumAbs s23 := by
  refine fsumA (l := []) mixed gl_plain rfl Try.func23 comp23 compR23 nt23 (by simp) fun ds ⟨a, b, hd⟩ hA => ?_
  subst hd
  simp only [ir23, rs23, gl, F23, sub_zero, qda, qai, List.length_cons, List.length_nil, Nat.reduceAdd, Nat.le_refl, Nat.reduceLeDiff, Nat.reduceLT, true_and, and_true, ↓evA, evB, evs, evp, mkB, repB, blen, ↓retQ, res, resAll, resOne, kill, apartOk, exp, injV, injB, pur, purs, purR, pursR, List.reduceReplicate, Nat.reduceAdd, Nat.reduceMul, Nat.reduceSub, Nat.reduceEqDiff, Nat.reduceLT, Int.reduceToNat, Int.reduceLE, Int.reduceLT, Int.reduceEq, reduceCtorEq, ↓reduceIte]
  refine awp_loopA (n := 26) hA [0, 1, 5, 6] (by decide +kernel) (fun s : Nat × Int => [.int .i64 a, .int .i64 b, .int .i64 s.2, .int .i64 ((s.1 : Int) - 1)])
    (fun _ => [.dead, .dead, .dead, .dead]) (fun s => s.1 ≤ 8 ∧ byG a b s.1 s.2 = byG a b 8 0) (fun s => s.1) (8, 0) ?_ ⟨by simp, rfl⟩ ?_
  · refine Hd.same ?_
    simp only [show (8 : Int) - 1 = 7 by decide, ↓evA, evB, evs, evp, mkB, repB, blen, ↓retQ, res, resAll, resOne, kill, apartOk, exp, injV, injB, pur, purs, purR, pursR, List.reduceReplicate, Nat.reduceAdd, Nat.reduceMul, Nat.reduceSub, Nat.reduceEqDiff, Nat.reduceLT, Int.reduceToNat, Int.reduceLE, Int.reduceLT, Int.reduceEq, reduceCtorEq, ↓reduceIte]
  rintro ⟨n, x⟩ ⟨hi, hm⟩ K hK
  simp only at hi hm hK
  cases n with
  | zero =>
    have c1 : ¬(0 : Int) ≤ 0 - 1 := by decide
    have hx : byG a b 8 0 = x := hm.symm
    simp only [c1, hx, sub_zero, qda, qai, List.length_cons, List.length_nil, Nat.reduceAdd, Nat.le_refl, Nat.reduceLeDiff, Nat.reduceLT, true_and, and_true, ↓evA, evB, evs, evp, mkB, repB, blen, ↓retQ, res, resAll, resOne, kill, apartOk, exp, injV, injB, pur, purs, purR, pursR, List.reduceReplicate, Nat.reduceAdd, Nat.reduceMul, Nat.reduceSub, Nat.reduceEqDiff, Nat.reduceLT, Int.reduceToNat, Int.reduceLE, Int.reduceLT, Int.reduceEq, reduceCtorEq, ↓reduceIte]
    exact out_int rfl
  | succ m =>
    have e1 : ((m + 1 : Nat) : Int) - 1 = m := by omega
    have c1 : (0 : Int) ≤ (m : Int) := by omega
    have wi : Go.IntKind.i64.wrap ((m : Int) - 1) = (m : Int) - 1 := by rw [wrap_i64]; omega
    have hn : ((m : Int)).toNat = m := by omega
    obtain ⟨x1, hx1⟩ : ∃ x1, Go.IntKind.i64.wrap (x * 2) = x1 := ⟨_, rfl⟩
    have hs : ∀ v, byS a b m x = v → K (m, v) := fun v hv => hK _ ⟨by simp only; omega, by simp only; rw [← hm, byG, hv]⟩ (by simp only; omega)
    simp only [byS, hx1] at hs
    by_cases h1 : 255 < x1 <;> by_cases h2 : bAnd .i64 (iShr .i64 b (m : Int)) 1 = 1
    all_goals
      simp only [h1, h2, if_true, if_false] at hs
      simp only [e1, c1, wi, hx1, h1, h2, sub_zero, qda, qai, List.length_cons, List.length_nil, Nat.reduceAdd, Nat.le_refl, Nat.reduceLeDiff, Nat.reduceLT, true_and, and_true, ↓evA, evB, evs, evp, mkB, repB, blen, ↓retQ, res, resAll, resOne, kill, apartOk, exp, injV, injB, pur, purs, purR, pursR, List.reduceReplicate, Nat.reduceAdd, Nat.reduceMul, Nat.reduceSub, Nat.reduceEqDiff, Nat.reduceLT, Int.reduceToNat, Int.reduceLE, Int.reduceLT, Int.reduceEq, reduceCtorEq, ↓reduceIte]
      repeat (refine And.intro (by omega) ?_)
      refine ⟨(m, _), hs _ rfl, Hd.same ?_⟩
      simp only [↓evA, evB, evs, evp, mkB, repB, blen, ↓retQ, res, resAll, resOne, kill, apartOk, exp, injV, injB, pur, purs, purR, pursR, List.reduceReplicate, Nat.reduceAdd, Nat.reduceMul, Nat.reduceSub, Nat.reduceEqDiff, Nat.reduceLT, Int.reduceToNat, Int.reduceLE, Int.reduceLT, Int.reduceEq, reduceCtorEq, ↓reduceIte]
end Am
set_option linter.unusedSimpArgs false
set_option linter.unusedVariables false
set_option maxRecDepth 20000
namespace Am
open Go.Proofs
/-! ### The reference's box -/
def invR (x : Int) : Nat → Int → Int
  | 0, v => v
  | n + 1, v => invR x n (if byG x (256 - ((n + 1 : Nat) : Int)) 8 0 = 1 then 256 - ((n + 1 : Nat) : Int) else v)
def affB (v : Int) (i : Nat) : Int :=
  bXor .i64 (bXor .i64 (bXor .i64 (bXor .i64 (iShr .i64 v i) (iShr .i64 v (((i : Int) + 4).tmod 8))) (iShr .i64 v (((i : Int) + 5).tmod 8))) (iShr .i64 v (((i : Int) + 6).tmod 8))) (iShr .i64 v (((i : Int) + 7).tmod 8))
def affG (v : Int) : Nat → Int
  | 0 => 99
  | n + 1 => bXor .i64 (affG v n) (iShl .i64 (bAnd .i64 (affB v n) 1) n)
def subR (x : Int) : Int := Go.IntKind.u8.wrap (affG (if x = 0 then 0 else invR (Go.IntKind.i64.wrap x) 255 0) 8)
def F25 : List D → Out
  | [.v (.int _ x)] => .one (.v (.int .u8 (subR x)))
  | _ => bad
def s25 : Summ := sData [.v] preU8 F25
set_option maxHeartbeats 2000000 in
theorem ok25 {g : List Blk} [Ge gl g] : SumOK Try.prog g 25 s25 ∧ SumAbs s25 := by
  refine fsumA (l := [(23, s23)]) mixed gl_plain rfl Try.func25 comp25 compR25 nt25 (by simp only [List.mem_cons, List.not_mem_nil, or_false, forall_eq]; exact ok23) fun ds ⟨x, hd⟩ hA => ?_
  subst hd
  simp only [s23]
  have q2 : ∀ a b, preI2 [.v (.int .i64 a), .v (.int .i64 b)] := fun a b => ⟨a, b, rfl⟩
  obtain ⟨X, hX⟩ : ∃ X, Go.IntKind.i64.wrap x = X := ⟨_, rfl⟩
  simp only [ir25, rs25, gl, F25, sub_zero, qda, qai, List.length_cons, List.length_nil, Nat.reduceAdd, Nat.le_refl, Nat.reduceLeDiff, Nat.reduceLT, true_and, and_true, ↓evA, evB, evs, evp, mkB, repB, blen, ↓retQ, res, resAll, resOne, kill, apartOk, exp, injV, injB, pur, purs, purR, pursR, List.reduceReplicate, Nat.reduceAdd, Nat.reduceMul, Nat.reduceSub, Nat.reduceEqDiff, Nat.reduceLT, Int.reduceToNat, Int.reduceLE, Int.reduceLT, Int.reduceEq, reduceCtorEq, ↓reduceIte]
  obtain ⟨v0, hv0⟩ : ∃ v0, (if x = 0 then 0 else invR X 255 0) = v0 := ⟨_, rfl⟩
  refine awp_loopA (n := 61) hA [0, 3, 4] (by decide +kernel) (fun s : Nat × Int => [.int .u8 x, .int .i64 s.2, .int .i64 (256 - (s.1 : Int))])
    (fun _ => [.dead, .dead, .dead, .dead]) (fun s => s.1 ≤ 255 ∧ (if x = 0 then s.2 else invR X s.1 s.2) = v0) (fun s => s.1) (255, 0) ?_ ⟨by simp, hv0⟩ ?_
  · refine Hd.same ?_
    simp only [show (256 : Int) - 255 = 1 by decide, ↓evA, evB, evs, evp, mkB, repB, blen, ↓retQ, res, resAll, resOne, kill, apartOk, exp, injV, injB, pur, purs, purR, pursR, List.reduceReplicate, Nat.reduceAdd, Nat.reduceMul, Nat.reduceSub, Nat.reduceEqDiff, Nat.reduceLT, Int.reduceToNat, Int.reduceLE, Int.reduceLT, Int.reduceEq, reduceCtorEq, ↓reduceIte]
  rintro ⟨n, v⟩ ⟨hi, hm⟩ K hK
  simp only at hi hm hK
  by_cases hgo : n = 0 ∨ x = 0
  · -- what is found is kept: the second loop
    have hv : v = v0 := by
      rcases hgo with rfl | hx
      · rw [← hm]; split <;> rfl
      · rw [if_pos hx] at hm; exact hm
    have second : True := trivial
    by_cases h0 : n = 0
    · subst h0
      have c1 : ¬ (256 : Int) - 0 < 256 := by decide
      simp only [c1, hv, sub_zero, qda, qai, List.length_cons, List.length_nil, Nat.reduceAdd, Nat.le_refl, Nat.reduceLeDiff, Nat.reduceLT, true_and, and_true, ↓evA, evB, evs, evp, mkB, repB, blen, ↓retQ, res, resAll, resOne, kill, apartOk, exp, injV, injB, pur, purs, purR, pursR, List.reduceReplicate, Nat.reduceAdd, Nat.reduceMul, Nat.reduceSub, Nat.reduceEqDiff, Nat.reduceLT, Int.reduceToNat, Int.reduceLE, Int.reduceLT, Int.reduceEq, reduceCtorEq, ↓reduceIte]
      refine awp_loopA (n := 61) hA [3, 5, 6] (by decide +kernel) (fun i : Nat => [.int .i64 v0, .int .i64 (affG v0 i), .int .i64 i])
        (fun _ => [.dead, .dead, .dead, .dead]) (fun i => i ≤ 8) (fun i => 8 - i) 0 ?_ (by omega) ?_
      · refine Hd.same ?_
        simp only [affG, ↓evA, evB, evs, evp, mkB, repB, blen, ↓retQ, res, resAll, resOne, kill, apartOk, exp, injV, injB, pur, purs, purR, pursR, List.reduceReplicate, Nat.reduceAdd, Nat.reduceMul, Nat.reduceSub, Nat.reduceEqDiff, Nat.reduceLT, Int.reduceToNat, Int.reduceLE, Int.reduceLT, Int.reduceEq, reduceCtorEq, ↓reduceIte]
      intro i hi K2 hK2
      by_cases hlt : i < 8
      · have c2 : (i : Int) < 8 := by omega
        have wi : Go.IntKind.i64.wrap ((i : Int) + 1) = ((i + 1 : Nat) : Int) := by rw [wrap_i64]; omega
        have w4 : Go.IntKind.i64.wrap ((i : Int) + 4) = (i : Int) + 4 := by rw [wrap_i64]; omega
        have w5 : Go.IntKind.i64.wrap ((i : Int) + 5) = (i : Int) + 5 := by rw [wrap_i64]; omega
        have w6 : Go.IntKind.i64.wrap ((i : Int) + 6) = (i : Int) + 6 := by rw [wrap_i64]; omega
        have w7 : Go.IntKind.i64.wrap ((i : Int) + 7) = (i : Int) + 7 := by rw [wrap_i64]; omega
        have n8 : ¬ (8 : Int) = 0 := by decide
        have p4 := Int.tmod_nonneg (a := (i : Int) + 4) 8 (by omega)
        have p5 := Int.tmod_nonneg (a := (i : Int) + 5) 8 (by omega)
        have p6 := Int.tmod_nonneg (a := (i : Int) + 6) 8 (by omega)
        have p7 := Int.tmod_nonneg (a := (i : Int) + 7) 8 (by omega)
        have hj : affG v0 (i + 1) = bXor .i64 (affG v0 i) (iShl .i64 (bAnd .i64 (affB v0 i) 1) i) := by rw [affG]
        rw [affB] at hj
        obtain ⟨w, hw⟩ : ∃ w, affG v0 i = w := ⟨_, rfl⟩
        rw [hw] at hj
        rw [hw]
        simp only [c2, wi, w4, w5, w6, w7, n8, p4, p5, p6, p7, sub_zero, qda, qai, List.length_cons, List.length_nil, Nat.reduceAdd, Nat.le_refl, Nat.reduceLeDiff, Nat.reduceLT, true_and, and_true, ↓evA, evB, evs, evp, mkB, repB, blen, ↓retQ, res, resAll, resOne, kill, apartOk, exp, injV, injB, pur, purs, purR, pursR, List.reduceReplicate, Nat.reduceAdd, Nat.reduceMul, Nat.reduceSub, Nat.reduceEqDiff, Nat.reduceLT, Int.reduceToNat, Int.reduceLE, Int.reduceLT, Int.reduceEq, reduceCtorEq, ↓reduceIte]
        repeat (refine And.intro (by omega) ?_)
        refine ⟨i + 1, hK2 _ (by omega) (by omega), Hd.same ?_⟩
        simp only [hj, ↓evA, evB, evs, evp, mkB, repB, blen, ↓retQ, res, resAll, resOne, kill, apartOk, exp, injV, injB, pur, purs, purR, pursR, List.reduceReplicate, Nat.reduceAdd, Nat.reduceMul, Nat.reduceSub, Nat.reduceEqDiff, Nat.reduceLT, Int.reduceToNat, Int.reduceLE, Int.reduceLT, Int.reduceEq, reduceCtorEq, ↓reduceIte]
      · obtain rfl : i = 8 := by omega
        have c2 : ¬((8 : Nat) : Int) < 8 := by omega
        have he : subR x = Go.IntKind.u8.wrap (affG v0 8) := by rw [subR, hX, hv0]
        simp only [c2, he, sub_zero, qda, qai, List.length_cons, List.length_nil, Nat.reduceAdd, Nat.le_refl, Nat.reduceLeDiff, Nat.reduceLT, true_and, and_true, ↓evA, evB, evs, evp, mkB, repB, blen, ↓retQ, res, resAll, resOne, kill, apartOk, exp, injV, injB, pur, purs, purR, pursR, List.reduceReplicate, Nat.reduceAdd, Nat.reduceMul, Nat.reduceSub, Nat.reduceEqDiff, Nat.reduceLT, Int.reduceToNat, Int.reduceLE, Int.reduceLT, Int.reduceEq, reduceCtorEq, ↓reduceIte]
        exact out_int rfl
    · have c1 : (256 : Int) - (n : Int) < 256 := by omega
      have hx : x = 0 := hgo.resolve_left h0
      simp only [c1, hx, hv, sub_zero, qda, qai, List.length_cons, List.length_nil, Nat.reduceAdd, Nat.le_refl, Nat.reduceLeDiff, Nat.reduceLT, true_and, and_true, ↓evA, evB, evs, evp, mkB, repB, blen, ↓retQ, res, resAll, resOne, kill, apartOk, exp, injV, injB, pur, purs, purR, pursR, List.reduceReplicate, Nat.reduceAdd, Nat.reduceMul, Nat.reduceSub, Nat.reduceEqDiff, Nat.reduceLT, Int.reduceToNat, Int.reduceLE, Int.reduceLT, Int.reduceEq, reduceCtorEq, ↓reduceIte]
      refine awp_loopA (n := 61) hA [3, 5, 6] (by decide +kernel) (fun i : Nat => [.int .i64 v0, .int .i64 (affG v0 i), .int .i64 i])
        (fun _ => [.dead, .dead, .dead, .dead]) (fun i => i ≤ 8) (fun i => 8 - i) 0 ?_ (by omega) ?_
      · refine Hd.same ?_
        simp only [affG, ↓evA, evB, evs, evp, mkB, repB, blen, ↓retQ, res, resAll, resOne, kill, apartOk, exp, injV, injB, pur, purs, purR, pursR, List.reduceReplicate, Nat.reduceAdd, Nat.reduceMul, Nat.reduceSub, Nat.reduceEqDiff, Nat.reduceLT, Int.reduceToNat, Int.reduceLE, Int.reduceLT, Int.reduceEq, reduceCtorEq, ↓reduceIte]
      intro i hi K2 hK2
      by_cases hlt : i < 8
      · have c2 : (i : Int) < 8 := by omega
        have wi : Go.IntKind.i64.wrap ((i : Int) + 1) = ((i + 1 : Nat) : Int) := by rw [wrap_i64]; omega
        have w4 : Go.IntKind.i64.wrap ((i : Int) + 4) = (i : Int) + 4 := by rw [wrap_i64]; omega
        have w5 : Go.IntKind.i64.wrap ((i : Int) + 5) = (i : Int) + 5 := by rw [wrap_i64]; omega
        have w6 : Go.IntKind.i64.wrap ((i : Int) + 6) = (i : Int) + 6 := by rw [wrap_i64]; omega
        have w7 : Go.IntKind.i64.wrap ((i : Int) + 7) = (i : Int) + 7 := by rw [wrap_i64]; omega
        have n8 : ¬ (8 : Int) = 0 := by decide
        have p4 := Int.tmod_nonneg (a := (i : Int) + 4) 8 (by omega)
        have p5 := Int.tmod_nonneg (a := (i : Int) + 5) 8 (by omega)
        have p6 := Int.tmod_nonneg (a := (i : Int) + 6) 8 (by omega)
        have p7 := Int.tmod_nonneg (a := (i : Int) + 7) 8 (by omega)
        have hj : affG v0 (i + 1) = bXor .i64 (affG v0 i) (iShl .i64 (bAnd .i64 (affB v0 i) 1) i) := by rw [affG]
        rw [affB] at hj
        obtain ⟨w, hw⟩ : ∃ w, affG v0 i = w := ⟨_, rfl⟩
        rw [hw] at hj
        rw [hw]
        simp only [c2, wi, w4, w5, w6, w7, n8, p4, p5, p6, p7, sub_zero, qda, qai, List.length_cons, List.length_nil, Nat.reduceAdd, Nat.le_refl, Nat.reduceLeDiff, Nat.reduceLT, true_and, and_true, ↓evA, evB, evs, evp, mkB, repB, blen, ↓retQ, res, resAll, resOne, kill, apartOk, exp, injV, injB, pur, purs, purR, pursR, List.reduceReplicate, Nat.reduceAdd, Nat.reduceMul, Nat.reduceSub, Nat.reduceEqDiff, Nat.reduceLT, Int.reduceToNat, Int.reduceLE, Int.reduceLT, Int.reduceEq, reduceCtorEq, ↓reduceIte]
        repeat (refine And.intro (by omega) ?_)
        refine ⟨i + 1, hK2 _ (by omega) (by omega), Hd.same ?_⟩
        simp only [hj, ↓evA, evB, evs, evp, mkB, repB, blen, ↓retQ, res, resAll, resOne, kill, apartOk, exp, injV, injB, pur, purs, purR, pursR, List.reduceReplicate, Nat.reduceAdd, Nat.reduceMul, Nat.reduceSub, Nat.reduceEqDiff, Nat.reduceLT, Int.reduceToNat, Int.reduceLE, Int.reduceLT, Int.reduceEq, reduceCtorEq, ↓reduceIte]
      · obtain rfl : i = 8 := by omega
        have c2 : ¬((8 : Nat) : Int) < 8 := by omega
        have he : subR x = Go.IntKind.u8.wrap (affG v0 8) := by rw [subR, hX, hv0]
        simp only [c2, he, sub_zero, qda, qai, List.length_cons, List.length_nil, Nat.reduceAdd, Nat.le_refl, Nat.reduceLeDiff, Nat.reduceLT, true_and, and_true, ↓evA, evB, evs, evp, mkB, repB, blen, ↓retQ, res, resAll, resOne, kill, apartOk, exp, injV, injB, pur, purs, purR, pursR, List.reduceReplicate, Nat.reduceAdd, Nat.reduceMul, Nat.reduceSub, Nat.reduceEqDiff, Nat.reduceLT, Int.reduceToNat, Int.reduceLE, Int.reduceLT, Int.reduceEq, reduceCtorEq, ↓reduceIte]
        exact out_int rfl
  · obtain ⟨m, rfl⟩ : ∃ m, n = m + 1 := ⟨n - 1, by omega⟩
    have hx : ¬ x = 0 := fun h => hgo (.inr h)
    rw [if_neg hx] at hm
    have c1 : (256 : Int) - ((m + 1 : Nat) : Int) < 256 := by omega
    obtain ⟨I, hI⟩ : ∃ I : Int, (256 : Int) - ((m + 1 : Nat) : Int) = I := ⟨_, rfl⟩
    have wi : Go.IntKind.i64.wrap (I + 1) = 256 - (m : Int) := by rw [wrap_i64]; omega
    rw [hI] at c1
    have hs : ∀ u, (if byG X I 8 0 = 1 then I else v) = u → K (m, u) := fun u hu => hK _ ⟨by simp only; omega, by simp only; rw [if_neg hx, ← hm, invR, hI, hu]⟩ (by simp only; omega)
    by_cases h1 : byG X I 8 0 = 1
    all_goals
      simp only [h1, if_true, if_false] at hs
      simp only [hI, c1, hx, hX, h1, wi, q2, s23, F23, sub_zero, qda, qai, List.length_cons, List.length_nil, Nat.reduceAdd, Nat.le_refl, Nat.reduceLeDiff, Nat.reduceLT, true_and, and_true, ↓evA, evB, evs, evp, mkB, repB, blen, ↓retQ, res, resAll, resOne, kill, apartOk, exp, injV, injB, pur, purs, purR, pursR, List.reduceReplicate, Nat.reduceAdd, Nat.reduceMul, Nat.reduceSub, Nat.reduceEqDiff, Nat.reduceLT, Int.reduceToNat, Int.reduceLE, Int.reduceLT, Int.reduceEq, reduceCtorEq, ↓reduceIte]
      repeat (refine And.intro (by omega) ?_)
      refine ⟨(m, _), hs _ rfl, Hd.same ?_⟩
      simp only [↓evA, evB, evs, evp, mkB, repB, blen, ↓retQ, res, resAll, resOne, kill, apartOk, exp, injV, injB, pur, purs, purR, pursR, List.reduceReplicate, Nat.reduceAdd, Nat.reduceMul, Nat.reduceSub, Nat.reduceEqDiff, Nat.reduceLT, Int.reduceToNat, Int.reduceLE, Int.reduceLT, Int.reduceEq, reduceCtorEq, ↓reduceIte]
end Am
set_option linter.unusedSimpArgs false
set_option linter.unusedVariables false
set_option maxRecDepth 20000
namespace Am
open Go.Proofs
def boxL (n : Nat) : List Int := (List.range n).map fun i : Nat => subR (i : Int)
theorem boxL_s (n : Nat) : boxL n ++ [subR (n : Int)] = boxL (n + 1) := by simp [boxL, List.range_succ]
theorem boxL_len (n : Nat) : (boxL n).length = n := by simp [boxL]
def bxV : Nat → V
  | 0 => .nils
  | n + 1 => .slice 4 0 1 (n + 1) (n + 1)
def bxB : Nat → List Int → List Blk
  | 0, _ => []
  | _ + 1, g => [.ints false .u8 g]
theorem bxV_0 : bxV 0 = .nils := by rw [bxV]
theorem bxV_s {i : Nat} : bxV (i + 1) = .slice 4 0 1 (i + 1) (i + 1) := by rw [bxV]
theorem bxB_0 {g : List Int} : bxB 0 g = [] := by rw [bxB]
theorem bxB_s {i : Nat} {g : List Int} : bxB (i + 1) g = [.ints false .u8 g] := by rw [bxB]
def preE (ds : List D) : Prop := ds = []
def F16 (_ : List D) : Out := .one (.s .u8 (boxL 256))
def s16 : Summ := sData [] preE F16
set_option maxHeartbeats 2000000 in
theorem ok16 {g : List Blk} [Ge gl g] : SumOK Try.prog g 16 s16 ∧ SumAbs s16 := by
  refine fsumA (l := [(25, s25)]) mixed gl_plain rfl Try.func16 comp16 compR16 nt16 (by simp only [List.mem_cons, List.not_mem_nil, or_false, forall_eq]; exact ok25) fun ds hd hA => ?_
  rw [hd]
  simp only [s25]
  have q : ∀ a, preU8 [.v (.int .u8 a)] := fun a => ⟨a, rfl⟩
  simp only [ir16, rs16, gl, F16, sub_zero, qda, qai, List.length_cons, List.length_nil, Nat.reduceAdd, Nat.le_refl, Nat.reduceLeDiff, Nat.reduceLT, true_and, and_true, ↓evA, evB, evs, evp, mkB, repB, blen, ↓retQ, res, resAll, resOne, kill, apartOk, exp, injV, injB, pur, purs, purR, pursR, List.reduceReplicate, Nat.reduceAdd, Nat.reduceMul, Nat.reduceSub, Nat.reduceEqDiff, Nat.reduceLT, Int.reduceToNat, Int.reduceLE, Int.reduceLT, Int.reduceEq, reduceCtorEq, ↓reduceIte]
  refine awp_loopA (n := 14) hA [1, 2] (by decide +kernel) (fun i : Nat => [bxV i, .int .i64 i])
    (fun i => [.dead, .dead, .dead, .dead] ++ bxB i (boxL i)) (fun i => i ≤ 256) (fun i => 256 - i) 0 ?_ (by omega) ?_
  · refine Hd.same ?_
    simp only [bxV_0, bxB_0, ↓evA, evB, evs, evp, mkB, repB, blen, ↓retQ, res, resAll, resOne, kill, apartOk, exp, injV, injB, pur, purs, purR, pursR, List.reduceReplicate, Nat.reduceAdd, Nat.reduceMul, Nat.reduceSub, Nat.reduceEqDiff, Nat.reduceLT, Int.reduceToNat, Int.reduceLE, Int.reduceLT, Int.reduceEq, reduceCtorEq, ↓reduceIte]
  intro i hi K hK
  by_cases hlt : i < 256
  · have c1 : (i : Int) < 256 := by omega
    have wi : Go.IntKind.i64.wrap ((i : Int) + 1) = ((i + 1 : Nat) : Int) := by rw [wrap_i64]; omega
    have w8 : Go.IntKind.u8.wrap (i : Int) = i := by rw [wrap_u8]; omega
    cases i with
    | zero =>
      have hb : [subR ((0 : Nat) : Int)] = boxL (0 + 1) := by rw [← boxL_s 0]; rfl
      obtain ⟨z, hz⟩ : ∃ z, subR ((0 : Nat) : Int) = z := ⟨_, rfl⟩
      have hz' : subR 0 = z := hz
      have w80 : Go.IntKind.u8.wrap 0 = 0 := by decide
      rw [hz] at hb
      simp only [c1, wi, w8, w80, q, hz, hz', bxV_0, bxB_0, s25, F25, sub_zero, qda, qai, List.length_cons, List.length_nil, Nat.reduceAdd, Nat.le_refl, Nat.reduceLeDiff, Nat.reduceLT, true_and, and_true, ↓evA, evB, evs, evp, mkB, repB, blen, ↓retQ, res, resAll, resOne, kill, apartOk, exp, injV, injB, pur, purs, purR, pursR, List.reduceReplicate, Nat.reduceAdd, Nat.reduceMul, Nat.reduceSub, Nat.reduceEqDiff, Nat.reduceLT, Int.reduceToNat, Int.reduceLE, Int.reduceLT, Int.reduceEq, reduceCtorEq, ↓reduceIte]
      repeat (refine And.intro (by omega) ?_)
      refine ⟨1, hK _ (by omega) (by omega), Hd.of [0, 1, 2, 3, 5] (by decide) (by decide) (by simp) ?_⟩
      simp only [show bxV 1 = .slice 4 0 1 1 1 from bxV_s, show ∀ g, bxB 1 g = [.ints false .u8 g] from fun g => bxB_s, show Go.IntKind.i64.wrap (0 + 1) = 1 by decide, ← show [z] = boxL 1 from hb, gc, gcVs, gcV, posOf, gcH, gcB, Option.map_some, Option.map_none, List.replicate_zero, List.drop_zero, ↓evA, evB, evs, evp, mkB, repB, blen, ↓retQ, res, resAll, resOne, kill, apartOk, exp, injV, injB, pur, purs, purR, pursR, List.reduceReplicate, Nat.reduceAdd, Nat.reduceMul, Nat.reduceSub, Nat.reduceEqDiff, Nat.reduceLT, Int.reduceToNat, Int.reduceLE, Int.reduceLT, Int.reduceEq, reduceCtorEq, ↓reduceIte]
    | succ j =>
      have hb := boxL_s (j + 1)
      have hl := boxL_len (j + 1)
      obtain ⟨z, hz⟩ : ∃ z, subR ((j + 1 : Nat) : Int) = z := ⟨_, rfl⟩
      obtain ⟨w, hw⟩ : ∃ w, boxL (j + 1) = w := ⟨_, rfl⟩
      rw [hz, hw] at hb
      rw [hw] at hl
      have sw : sub w 0 (j + 1) = w := sub_zero (by omega)
      simp only [c1, wi, w8, q, hz, hw, hl, sw, bxV_s, bxB_s, s25, F25, sub_zero, qda, qai, List.length_cons, List.length_nil, Nat.reduceAdd, Nat.le_refl, Nat.reduceLeDiff, Nat.reduceLT, true_and, and_true, ↓evA, evB, evs, evp, mkB, repB, blen, ↓retQ, res, resAll, resOne, kill, apartOk, exp, injV, injB, pur, purs, purR, pursR, List.reduceReplicate, Nat.reduceAdd, Nat.reduceMul, Nat.reduceSub, Nat.reduceEqDiff, Nat.reduceLT, Int.reduceToNat, Int.reduceLE, Int.reduceLT, Int.reduceEq, reduceCtorEq, ↓reduceIte]
      repeat (refine And.intro (by omega) ?_)
      refine ⟨j + 1 + 1, hK _ (by omega) (by omega), Hd.of [0, 1, 2, 3, 6] (by decide) (by decide) (by simp) ?_⟩
      simp only [bxV_s, bxB_s, ← hb, gc, gcVs, gcV, posOf, gcH, gcB, Option.map_some, Option.map_none, List.replicate_zero, List.drop_zero, ↓evA, evB, evs, evp, mkB, repB, blen, ↓retQ, res, resAll, resOne, kill, apartOk, exp, injV, injB, pur, purs, purR, pursR, List.reduceReplicate, Nat.reduceAdd, Nat.reduceMul, Nat.reduceSub, Nat.reduceEqDiff, Nat.reduceLT, Int.reduceToNat, Int.reduceLE, Int.reduceLT, Int.reduceEq, reduceCtorEq, ↓reduceIte]
  · obtain rfl : i = 256 := by omega
    have c1 : ¬((256 : Nat) : Int) < 256 := by omega
    have e1 : bxV 256 = .slice 4 0 1 256 256 := bxV_s
    have e2 : ∀ g, bxB 256 g = [.ints false .u8 g] := fun g => bxB_s
    have hl := boxL_len 256
    obtain ⟨w, hw⟩ : ∃ w, boxL 256 = w := ⟨_, rfl⟩
    rw [hw] at hl
    have sw : sub w 0 256 = w := sub_zero (by omega)
    simp only [c1, e1, e2, hw, hl, sw, out, outs, out1, List.not_mem_nil, sub_zero, qda, qai, List.length_cons, List.length_nil, Nat.reduceAdd, Nat.le_refl, Nat.reduceLeDiff, Nat.reduceLT, true_and, and_true, ↓evA, evB, evs, evp, mkB, repB, blen, ↓retQ, res, resAll, resOne, kill, apartOk, exp, injV, injB, pur, purs, purR, pursR, List.reduceReplicate, Nat.reduceAdd, Nat.reduceMul, Nat.reduceSub, Nat.reduceEqDiff, Nat.reduceLT, Int.reduceToNat, Int.reduceLE, Int.reduceLT, Int.reduceEq, reduceCtorEq, ↓reduceIte]
end Am
set_option linter.unusedSimpArgs false
set_option linter.unusedVariables false
set_option maxRecDepth 20000
namespace Am
open Go.Proofs
/-! ### The reference's blocks -/
def preF4 (ds : List D) : Prop := ∃ n : Nat, ds = [.v (.int .i64 n)] ∧ n < 16
def F24 : List D → Out
  | [.v (.int _ x)] => .one (.v (.int .i64 (((x.toNat / 4 * 4 : Nat)) : Int)))
  | _ => bad
def s24 : Summ := sData [.v] preF4 F24
theorem ok24 {g : List Blk} [Ge gl g] : SumOK Try.prog g 24 s24 ∧ SumAbs s24 := by
  refine fsumA (l := []) mixed gl_plain rfl Try.func24 comp24 compR24 nt24 (by simp) fun ds ⟨n, hd, hn⟩ hA => ?_
  subst hd
  have n4 : ¬ (4 : Int) = 0 := by decide
  have hF : F24 [.v (.int .i64 (n : Int))] = .one (.v (.int .i64 ((n / 4 * 4 : Nat) : Int))) := by
    show Out.one (.v (.int .i64 ((((n : Int)).toNat / 4 * 4 : Nat) : Int))) = _
    rw [Int.toNat_natCast]
  have w : Go.IntKind.i64.wrap ((n : Int) - ((n % 4 : Nat) : Int)) = ((n / 4 * 4 : Nat) : Int) := by rw [wrap_i64]; omega
  simp only [ir24, rs24, gl, hF, n4, tmod4, w, sub_zero, qda, qai, List.length_cons, List.length_nil, Nat.reduceAdd, Nat.le_refl, Nat.reduceLeDiff, Nat.reduceLT, true_and, and_true, ↓evA, evB, evs, evp, mkB, repB, blen, ↓retQ, res, resAll, resOne, kill, apartOk, exp, injV, injB, pur, purs, purR, pursR, List.reduceReplicate, Nat.reduceAdd, Nat.reduceMul, Nat.reduceSub, Nat.reduceEqDiff, Nat.reduceLT, Int.reduceToNat, Int.reduceLE, Int.reduceLT, Int.reduceEq, reduceCtorEq, ↓reduceIte]
  exact out_int rfl
def rkA (w : List Int) (n : Nat) (ks : List Int) (i : Nat) : List Int := ks ++ [bXor .u8 (getI ks (n - 16 + i)) (getI w i)]
def rkW (bx w : List Int) (c : Int) : List Int := [bXor .u8 (getI bx (getI w 1).toNat) (Go.IntKind.u8.wrap c), getI bx (getI w 2).toNat, getI bx (getI w 3).toNat, getI bx (getI w 0).toNat]
def rkS (bx : List Int) (s : Int × List Int) (m : Nat) : Int × List Int :=
  if m % 4 = 0 then (byG s.1 2 8 0, itr (rkA (rkW bx (sub s.2 (12 + 4 * m) 4) s.1) (16 + 4 * m)) s.2 4) else (s.1, itr (rkA (sub s.2 (12 + 4 * m) 4) (16 + 4 * m)) s.2 4)
def keysR (bx k : List Int) : List Int := (itr (rkS bx) (1, k) 40).2
def jxR (K : List Int) (b : List Int) (i : Nat) : List Int := b.set i (bXor .u8 (getI b i) (getI K i))
def sbR (bx b s : List Int) (i : Nat) : List Int := s.set i (getI bx (getI b ((i + 4 * (i % 4)) % 16)).toNat)
def mixR (s : List Int) (i : Nat) : Int := bXor .i64 (bXor .i64 (bXor .i64 (byG (getI s i) 2 8 0) (byG (getI s (i / 4 * 4 + (i + 1) % 4)) 3 8 0)) (getI s (i / 4 * 4 + (i + 2) % 4))) (getI s (i / 4 * 4 + (i + 3) % 4))
def rxR (s K : List Int) (m : Nat) (b : List Int) (i : Nat) : List Int := b.set i (bXor .u8 (Go.IntKind.u8.wrap (if m < 9 then mixR s i else getI s i)) (getI K (16 * (m + 1) + i)))
def rndR (bx K b : List Int) (m : Nat) : List Int := itr (rxR (itr (sbR bx b) z16 16) K m) b 16
def encR (bx k b : List Int) : List Int := itr (rndR bx (keysR bx k)) (itr (jxR (keysR bx k)) b 16) 10
def B256 (l : List Int) : Prop := l.length = 256 ∧ Dig 256 l
def Kn (n : Nat) (l : List Int) : Prop := l.length = n ∧ Dig 256 l
theorem rkA_ok {w ks : List Int} {n m : Nat} (h : Kn m ks) (j : Nat) : Kn (m + j) (itr (rkA w n) ks j) :=
  itr_inv (fun j (s : List Int) => Kn (m + j) s) h (fun j s hs => ⟨by simp [rkA, hs.1]; omega, Dig.append hs.2 (by intro x hx; simp only [List.mem_singleton] at hx; subst hx; exact x8_bd _ _)⟩) j
theorem rkS_ok {bx : List Int} {s : Int × List Int} {m : Nat} (h : Kn (16 + 4 * m) s.2) : Kn (16 + 4 * (m + 1)) (rkS bx s m).2 := by
  unfold rkS
  split <;> exact rkA_ok h 4
theorem rks_ok {bx k : List Int} (h : B16 k) (m : Nat) : Kn (16 + 4 * m) (itr (rkS bx) (1, k) m).2 :=
  itr_inv (fun m (s : Int × List Int) => Kn (16 + 4 * m) s.2) (show Kn 16 k from h) (fun m s hs => rkS_ok hs) m
theorem jxR_ok {K b : List Int} (h : B16 b) (n : Nat) : B16 (itr (jxR K) b n) :=
  itr_inv (fun _ (s : List Int) => B16 s) h (fun n s hs => ⟨by simp [jxR, hs.1], hs.2.set _ (x8_bd _ _).1 (x8_bd _ _).2⟩) n
theorem sbR_ok {bx b : List Int} (h : B256 bx) (n : Nat) : B16 (itr (sbR bx b) z16 n) :=
  itr_inv (fun _ (s : List Int) => B16 s) ⟨rfl, fun x hx => by rw [(List.mem_replicate.1 hx).2]; decide⟩ (fun n s hs => by
    have hg := h.2.all (by decide) (getI b ((n + 4 * (n % 4)) % 16)).toNat
    exact ⟨by simp [sbR, hs.1], hs.2.set _ hg.1 hg.2⟩) n
theorem rxR_ok {s K b : List Int} {m : Nat} (h : B16 b) (n : Nat) : B16 (itr (rxR s K m) b n) :=
  itr_inv (fun _ (s : List Int) => B16 s) h (fun n s hs => ⟨by simp [rxR, hs.1], hs.2.set _ (x8_bd _ _).1 (x8_bd _ _).2⟩) n
theorem rndR_ok {bx K b : List Int} (h : B16 b) (n : Nat) : B16 (itr (rndR bx K) b n) :=
  itr_inv (fun _ (s : List Int) => B16 s) h (fun n s hs => rxR_ok hs 16) n
def preEncR (ds : List D) : Prop := ∃ bx k b : List Int, ds = [.s .u8 bx, .v (.ints .u8 k), .v (.ints .u8 b)] ∧ B256 bx ∧ B16 k ∧ B16 b
def F15 : List D → Out
  | [.s _ bx, .v (.ints _ k), .v (.ints _ b)] => .one (.v (.ints .u8 (encR bx k b)))
  | _ => bad
def s15 : Summ := sData [.s .u8, .v, .v] preEncR F15
set_option maxHeartbeats 4000000 in
theorem ok15 {g : List Blk} [Ge gl g] : SumOK Try.prog g 15 s15 ∧ SumAbs s15 := by
  refine fsumA (l := [(23, s23), (24, s24)]) mixed gl_plain rfl Try.func15 comp15 compR15 nt15 (by simp only [List.mem_cons, List.not_mem_nil, or_false, forall_eq_or_imp, forall_eq]; exact ⟨ok23, ok24⟩) fun ds ⟨bx, k, b, hd, hx, hk, hb⟩ hA => ?_
  subst hd
  have hF : F15 [.s .u8 bx, .v (.ints .u8 k), .v (.ints .u8 b)] = .one (.v (.ints .u8 (encR bx k b))) := rfl
  obtain ⟨R, hR⟩ : ∃ R, encR bx k b = R := ⟨_, rfl⟩
  rw [hR] at hF
  have hxl := hx.1
  have hkl := hk.1
  have hbl := hb.1
  have sk : sub k 0 16 = k := sub_zero hkl
  have qB : ∀ x y, preI2 [.v (.int .i64 x), .v (.int .i64 y)] := fun x y => ⟨x, y, rfl⟩
  simp only [s23, s24]
  simp only [ir15, rs15, gl, hF, hxl, hkl, hbl, sk, sub_zero, qda, qai, List.length_cons, List.length_nil, Nat.reduceAdd, Nat.le_refl, Nat.reduceLeDiff, Nat.reduceLT, true_and, and_true, ↓evA, evB, evs, evp, mkB, repB, blen, ↓retQ, res, resAll, resOne, kill, apartOk, exp, injV, injB, pur, purs, purR, pursR, List.reduceReplicate, Nat.reduceAdd, Nat.reduceMul, Nat.reduceSub, Nat.reduceEqDiff, Nat.reduceLT, Int.reduceToNat, Int.reduceLE, Int.reduceLT, Int.reduceEq, reduceCtorEq, ↓reduceIte]
  refine awp_loopA (n := 178) hA [0, 5, 6, 7, 8] (by decide +kernel) (fun m : Nat => [.slice 4 0 1 256 256, .ptr 5 0, .ptr 6 0, .slice 7 0 1 (16 + 4 * m) (16 + 4 * m), .int .i64 (itr (rkS bx) (1, k) m).1])
    (fun m => [.dead, .dead, .dead, .dead, .ints true .u8 bx, .ints false .u8 b, .ints false .u8 [0, 0, 0, 0, 0, 0, 0, 0, 0, 0, 0, 0, 0, 0, 0, 0], .ints false .u8 (itr (rkS bx) (1, k) m).2]) (fun m => m ≤ 40) (fun m => 40 - m) 0 ?_ (by omega) ?_
  · refine Hd.of [0, 1, 2, 3, 4, 6, 7, 9] (by decide) (by decide) (by simp) ?_
    simp only [itr, gc, gcVs, gcV, posOf, gcH, gcB, Option.map_some, Option.map_none, List.replicate_zero, List.drop_zero, ↓evA, evB, evs, evp, mkB, repB, blen, ↓retQ, res, resAll, resOne, kill, apartOk, exp, injV, injB, pur, purs, purR, pursR, List.reduceReplicate, Nat.reduceAdd, Nat.reduceMul, Nat.reduceSub, Nat.reduceEqDiff, Nat.reduceLT, Int.reduceToNat, Int.reduceLE, Int.reduceLT, Int.reduceEq, reduceCtorEq, ↓reduceIte]
  intro m hm K hK
  have hks := rks_ok (bx := bx) hk m
  simp only [s23, s24]
  by_cases hlt : m < 40
  · have c1 : ((16 + 4 * m : Nat) : Int) < 176 := by omega
    have wn4 : Go.IntKind.i64.wrap (((16 + 4 * m : Nat) : Int) - 4) = ((12 + 4 * m : Nat) : Int) := by rw [wrap_i64]; omega
    have wn16 : Go.IntKind.i64.wrap (((16 + 4 * m : Nat) : Int) - 16) = ((4 * m : Nat) : Int) := by rw [wrap_i64]; omega
    have e4 : 16 + 4 * m - (12 + 4 * m) = 4 := by omega
    have n16 : ¬ (16 : Int) = 0 := by decide
    have hst : itr (rkS bx) (1, k) (m + 1) = rkS bx (itr (rkS bx) (1, k) m) m := rfl
    obtain ⟨⟨c, ks⟩, hs⟩ : ∃ s, itr (rkS bx) (1, k) m = s := ⟨_, rfl⟩
    rw [hs] at hst hks
    rw [hs]
    simp only at hks
    have hkl' := hks.1
    have b1 : 12 + 4 * m ≤ 16 + 4 * m := by omega
    obtain ⟨w, hw⟩ : ∃ w, sub ks (12 + 4 * m) 4 = w := ⟨_, rfl⟩
    have wl : w.length = 4 := by rw [← hw]; simp [sub, hkl']; omega
    have wd : Dig 256 w := by rw [← hw]; exact fun y hy => hks.2 y (List.mem_of_mem_drop (List.mem_of_mem_take hy))
    have sw : sub w 0 4 = w := sub_zero wl
    have bw : ∀ j, (getI w j).toNat < 256 ∧ 0 ≤ getI w j ∧ getI w j < 256 := fun j => by have := wd.all (by decide) j; omega
    rw [rkS, hw] at hst
    simp only at hst
    by_cases hc : m % 4 = 0
    · have bw0 := bw 0
      have bw1 := bw 1
      have bw2 := bw 2
      have bw3 := bw 3
      obtain ⟨W, hW⟩ : ∃ W, rkW bx w c = W := ⟨_, rfl⟩
      have Wl : W.length = 4 := by rw [← hW]; rfl
      have eW : [bXor .u8 (getI bx (getI w 1).toNat) (Go.IntKind.u8.wrap c), getI bx (getI w 2).toNat, getI bx (getI w 3).toNat, getI bx (getI w 0).toNat] = W := hW
      have h16 : (16 + 4 * m) % 16 = 0 := by omega
      rw [if_pos hc, hW] at hst
      simp only [c1, wn4, e4, n16, tmod16, h16, hkl', b1, hw, wl, sw, bw0, bw1, bw2, bw3, hxl, eW, qB, s23, F23, sub_zero, qda, qai, List.length_cons, List.length_nil, Nat.reduceAdd, Nat.le_refl, Nat.reduceLeDiff, Nat.reduceLT, true_and, and_true, ↓evA, evB, evs, evp, mkB, repB, blen, ↓retQ, res, resAll, resOne, kill, apartOk, exp, injV, injB, pur, purs, purR, pursR, List.reduceReplicate, Nat.reduceAdd, Nat.reduceMul, Nat.reduceSub, Nat.reduceEqDiff, Nat.reduceLT, Int.reduceToNat, Int.reduceLE, Int.reduceLT, Int.reduceEq, reduceCtorEq, ↓reduceIte]
      repeat (refine And.intro (by omega) ?_)
      obtain ⟨c', hc'⟩ : ∃ c', byG c 2 8 0 = c' := ⟨_, rfl⟩
      rw [hc'] at hst
      have hst1 : ∀ i l, rkA W (16 + 4 * m) l i = l ++ [bXor .u8 (getI l (4 * m + i)) (getI W i)] := fun i l => by rw [rkA, show 16 + 4 * m - 16 + i = 4 * m + i by omega]
      refine awp_loopA (n := 178) hA [0, 5, 6, 7, 8, 9, 10, 11] (by decide +kernel) (fun i : Nat => [.slice 4 0 1 256 256, .ptr 5 0, .ptr 6 0, .slice 7 0 1 (16 + 4 * m + i) (16 + 4 * m + i), .int .i64 c', .int .i64 ((16 + 4 * m : Nat) : Int), .slice 8 0 1 4 4, .int .i64 i])
        (fun i => [.dead, .dead, .dead, .dead, .ints true .u8 bx, .ints false .u8 b, .ints false .u8 [0, 0, 0, 0, 0, 0, 0, 0, 0, 0, 0, 0, 0, 0, 0, 0], .ints false .u8 (itr (rkA W (16 + 4 * m)) ks i), .ints false .u8 W]) (fun i => i ≤ 4) (fun i => 4 - i) 0 ?_ (by omega) ?_
      · refine Hd.of [0, 1, 2, 3, 4, 5, 6, 7, 10] (by decide) (by decide) (by simp) ?_
        simp only [itr, hc', Nat.add_zero, gc, gcVs, gcV, posOf, gcH, gcB, Option.map_some, Option.map_none, List.replicate_zero, List.drop_zero, ↓evA, evB, evs, evp, mkB, repB, blen, ↓retQ, res, resAll, resOne, kill, apartOk, exp, injV, injB, pur, purs, purR, pursR, List.reduceReplicate, Nat.reduceAdd, Nat.reduceMul, Nat.reduceSub, Nat.reduceEqDiff, Nat.reduceLT, Int.reduceToNat, Int.reduceLE, Int.reduceLT, Int.reduceEq, reduceCtorEq, ↓reduceIte]
      intro i hi K2 hK2
      have hii := rkA_ok (w := W) (n := 16 + 4 * m) hks i
      simp only [s23, s24]
      by_cases hli : i < 4
      · have d1 : (i : Int) < 4 := by omega
        have wi : Go.IntKind.i64.wrap ((i : Int) + 1) = ((i + 1 : Nat) : Int) := by rw [wrap_i64]; omega
        have wa : Go.IntKind.i64.wrap (((4 * m : Nat) : Int) + (i : Int)) = ((4 * m + i : Nat) : Int) := by rw [wrap_i64]; omega
        have hsi : itr (rkA W (16 + 4 * m)) ks (i + 1) = rkA W (16 + 4 * m) (itr (rkA W (16 + 4 * m)) ks i) i := rfl
        rw [hst1] at hsi
        obtain ⟨l, hl⟩ : ∃ l, itr (rkA W (16 + 4 * m)) ks i = l := ⟨_, rfl⟩
        rw [hl] at hsi hii
        rw [hl]
        have hll := hii.1
        have g1 : 4 * m + i < 16 + 4 * m + i := by omega
        have sl : sub l 0 (16 + 4 * m + i) = l := sub_zero hll
        have ea : 16 + 4 * m + (i + 1) = 16 + 4 * m + i + 1 := rfl
        simp only [d1, wi, wa, wn16, hll, g1, hli, Wl, sl, sub_zero, qda, qai, List.length_cons, List.length_nil, Nat.reduceAdd, Nat.le_refl, Nat.reduceLeDiff, Nat.reduceLT, true_and, and_true, ↓evA, evB, evs, evp, mkB, repB, blen, ↓retQ, res, resAll, resOne, kill, apartOk, exp, injV, injB, pur, purs, purR, pursR, List.reduceReplicate, Nat.reduceAdd, Nat.reduceMul, Nat.reduceSub, Nat.reduceEqDiff, Nat.reduceLT, Int.reduceToNat, Int.reduceLE, Int.reduceLT, Int.reduceEq, reduceCtorEq, ↓reduceIte]
        repeat (refine And.intro (by omega) ?_)
        refine ⟨i + 1, hK2 _ (by omega) (by omega), Hd.of [0, 1, 2, 3, 4, 5, 6, 10, 8] (by decide) (by decide) (by simp) ?_⟩
        simp only [hsi, ea, gc, gcVs, gcV, posOf, gcH, gcB, Option.map_some, Option.map_none, List.replicate_zero, List.drop_zero, ↓evA, evB, evs, evp, mkB, repB, blen, ↓retQ, res, resAll, resOne, kill, apartOk, exp, injV, injB, pur, purs, purR, pursR, List.reduceReplicate, Nat.reduceAdd, Nat.reduceMul, Nat.reduceSub, Nat.reduceEqDiff, Nat.reduceLT, Int.reduceToNat, Int.reduceLE, Int.reduceLT, Int.reduceEq, reduceCtorEq, ↓reduceIte]
      obtain rfl : i = 4 := by omega
      have d1 : ¬((4 : Nat) : Int) < 4 := by omega
      simp only [d1, sub_zero, qda, qai, List.length_cons, List.length_nil, Nat.reduceAdd, Nat.le_refl, Nat.reduceLeDiff, Nat.reduceLT, true_and, and_true, ↓evA, evB, evs, evp, mkB, repB, blen, ↓retQ, res, resAll, resOne, kill, apartOk, exp, injV, injB, pur, purs, purR, pursR, List.reduceReplicate, Nat.reduceAdd, Nat.reduceMul, Nat.reduceSub, Nat.reduceEqDiff, Nat.reduceLT, Int.reduceToNat, Int.reduceLE, Int.reduceLT, Int.reduceEq, reduceCtorEq, ↓reduceIte]
      refine ⟨m + 1, hK _ (by omega) (by omega), Hd.of [0, 1, 2, 3, 4, 5, 6, 7] (by decide) (by decide) (by simp) ?_⟩
      simp only [hst, show 16 + 4 * (m + 1) = 16 + 4 * m + 4 by omega, gc, gcVs, gcV, posOf, gcH, gcB, Option.map_some, Option.map_none, List.replicate_zero, List.drop_zero, ↓evA, evB, evs, evp, mkB, repB, blen, ↓retQ, res, resAll, resOne, kill, apartOk, exp, injV, injB, pur, purs, purR, pursR, List.reduceReplicate, Nat.reduceAdd, Nat.reduceMul, Nat.reduceSub, Nat.reduceEqDiff, Nat.reduceLT, Int.reduceToNat, Int.reduceLE, Int.reduceLT, Int.reduceEq, reduceCtorEq, ↓reduceIte]
    · obtain ⟨W, hW⟩ : ∃ W, w = W := ⟨_, rfl⟩
      rw [hW] at hw wl sw
      have Wl := wl
      obtain ⟨c', hc'⟩ : ∃ c', c = c' := ⟨_, rfl⟩
      have h16 : ¬ (((16 + 4 * m) % 16 : Nat) : Int) = 0 := by omega
      rw [if_neg hc, hW, hc'] at hst
      simp only [c1, wn4, e4, n16, tmod16, h16, hkl', b1, hw, wl, sw, hc', sub_zero, qda, qai, List.length_cons, List.length_nil, Nat.reduceAdd, Nat.le_refl, Nat.reduceLeDiff, Nat.reduceLT, true_and, and_true, ↓evA, evB, evs, evp, mkB, repB, blen, ↓retQ, res, resAll, resOne, kill, apartOk, exp, injV, injB, pur, purs, purR, pursR, List.reduceReplicate, Nat.reduceAdd, Nat.reduceMul, Nat.reduceSub, Nat.reduceEqDiff, Nat.reduceLT, Int.reduceToNat, Int.reduceLE, Int.reduceLT, Int.reduceEq, reduceCtorEq, ↓reduceIte]
      repeat (refine And.intro (by omega) ?_)
      have hst1 : ∀ i l, rkA W (16 + 4 * m) l i = l ++ [bXor .u8 (getI l (4 * m + i)) (getI W i)] := fun i l => by rw [rkA, show 16 + 4 * m - 16 + i = 4 * m + i by omega]
      refine awp_loopA (n := 178) hA [0, 5, 6, 7, 8, 9, 10, 11] (by decide +kernel) (fun i : Nat => [.slice 4 0 1 256 256, .ptr 5 0, .ptr 6 0, .slice 7 0 1 (16 + 4 * m + i) (16 + 4 * m + i), .int .i64 c', .int .i64 ((16 + 4 * m : Nat) : Int), .slice 8 0 1 4 4, .int .i64 i])
        (fun i => [.dead, .dead, .dead, .dead, .ints true .u8 bx, .ints false .u8 b, .ints false .u8 [0, 0, 0, 0, 0, 0, 0, 0, 0, 0, 0, 0, 0, 0, 0, 0], .ints false .u8 (itr (rkA W (16 + 4 * m)) ks i), .ints false .u8 W]) (fun i => i ≤ 4) (fun i => 4 - i) 0 ?_ (by omega) ?_
      · refine Hd.of [0, 1, 2, 3, 4, 5, 6, 7, 9] (by decide) (by decide) (by simp) ?_
        simp only [itr, Nat.add_zero, gc, gcVs, gcV, posOf, gcH, gcB, Option.map_some, Option.map_none, List.replicate_zero, List.drop_zero, ↓evA, evB, evs, evp, mkB, repB, blen, ↓retQ, res, resAll, resOne, kill, apartOk, exp, injV, injB, pur, purs, purR, pursR, List.reduceReplicate, Nat.reduceAdd, Nat.reduceMul, Nat.reduceSub, Nat.reduceEqDiff, Nat.reduceLT, Int.reduceToNat, Int.reduceLE, Int.reduceLT, Int.reduceEq, reduceCtorEq, ↓reduceIte]
      intro i hi K2 hK2
      have hii := rkA_ok (w := W) (n := 16 + 4 * m) hks i
      simp only [s23, s24]
      by_cases hli : i < 4
      · have d1 : (i : Int) < 4 := by omega
        have wi : Go.IntKind.i64.wrap ((i : Int) + 1) = ((i + 1 : Nat) : Int) := by rw [wrap_i64]; omega
        have wa : Go.IntKind.i64.wrap (((4 * m : Nat) : Int) + (i : Int)) = ((4 * m + i : Nat) : Int) := by rw [wrap_i64]; omega
        have hsi : itr (rkA W (16 + 4 * m)) ks (i + 1) = rkA W (16 + 4 * m) (itr (rkA W (16 + 4 * m)) ks i) i := rfl
        rw [hst1] at hsi
        obtain ⟨l, hl⟩ : ∃ l, itr (rkA W (16 + 4 * m)) ks i = l := ⟨_, rfl⟩
        rw [hl] at hsi hii
        rw [hl]
        have hll := hii.1
        have g1 : 4 * m + i < 16 + 4 * m + i := by omega
        have sl : sub l 0 (16 + 4 * m + i) = l := sub_zero hll
        have ea : 16 + 4 * m + (i + 1) = 16 + 4 * m + i + 1 := rfl
        simp only [d1, wi, wa, wn16, hll, g1, hli, Wl, sl, sub_zero, qda, qai, List.length_cons, List.length_nil, Nat.reduceAdd, Nat.le_refl, Nat.reduceLeDiff, Nat.reduceLT, true_and, and_true, ↓evA, evB, evs, evp, mkB, repB, blen, ↓retQ, res, resAll, resOne, kill, apartOk, exp, injV, injB, pur, purs, purR, pursR, List.reduceReplicate, Nat.reduceAdd, Nat.reduceMul, Nat.reduceSub, Nat.reduceEqDiff, Nat.reduceLT, Int.reduceToNat, Int.reduceLE, Int.reduceLT, Int.reduceEq, reduceCtorEq, ↓reduceIte]
        repeat (refine And.intro (by omega) ?_)
        refine ⟨i + 1, hK2 _ (by omega) (by omega), Hd.of [0, 1, 2, 3, 4, 5, 6, 10, 8] (by decide) (by decide) (by simp) ?_⟩
        simp only [hsi, ea, gc, gcVs, gcV, posOf, gcH, gcB, Option.map_some, Option.map_none, List.replicate_zero, List.drop_zero, ↓evA, evB, evs, evp, mkB, repB, blen, ↓retQ, res, resAll, resOne, kill, apartOk, exp, injV, injB, pur, purs, purR, pursR, List.reduceReplicate, Nat.reduceAdd, Nat.reduceMul, Nat.reduceSub, Nat.reduceEqDiff, Nat.reduceLT, Int.reduceToNat, Int.reduceLE, Int.reduceLT, Int.reduceEq, reduceCtorEq, ↓reduceIte]
      obtain rfl : i = 4 := by omega
      have d1 : ¬((4 : Nat) : Int) < 4 := by omega
      simp only [d1, sub_zero, qda, qai, List.length_cons, List.length_nil, Nat.reduceAdd, Nat.le_refl, Nat.reduceLeDiff, Nat.reduceLT, true_and, and_true, ↓evA, evB, evs, evp, mkB, repB, blen, ↓retQ, res, resAll, resOne, kill, apartOk, exp, injV, injB, pur, purs, purR, pursR, List.reduceReplicate, Nat.reduceAdd, Nat.reduceMul, Nat.reduceSub, Nat.reduceEqDiff, Nat.reduceLT, Int.reduceToNat, Int.reduceLE, Int.reduceLT, Int.reduceEq, reduceCtorEq, ↓reduceIte]
      refine ⟨m + 1, hK _ (by omega) (by omega), Hd.of [0, 1, 2, 3, 4, 5, 6, 7] (by decide) (by decide) (by simp) ?_⟩
      simp only [hst, show 16 + 4 * (m + 1) = 16 + 4 * m + 4 by omega, gc, gcVs, gcV, posOf, gcH, gcB, Option.map_some, Option.map_none, List.replicate_zero, List.drop_zero, ↓evA, evB, evs, evp, mkB, repB, blen, ↓retQ, res, resAll, resOne, kill, apartOk, exp, injV, injB, pur, purs, purR, pursR, List.reduceReplicate, Nat.reduceAdd, Nat.reduceMul, Nat.reduceSub, Nat.reduceEqDiff, Nat.reduceLT, Int.reduceToNat, Int.reduceLE, Int.reduceLT, Int.reduceEq, reduceCtorEq, ↓reduceIte]
  obtain rfl : m = 40 := by omega

  have hn : 16 + 4 * 40 = 176 := rfl
  have hKe : (itr (rkS bx) (1, k) 40).2 = keysR bx k := rfl
  have hEn : encR bx k b = itr (rndR bx (keysR bx k)) (itr (jxR (keysR bx k)) b 16) 10 := rfl
  obtain ⟨c, hc⟩ : ∃ c, (itr (rkS bx) (1, k) 40).1 = c := ⟨_, rfl⟩
  rw [hKe] at hks ⊢
  rw [hc]
  rw [hn] at hks ⊢
  obtain ⟨K, hKK⟩ : ∃ K, keysR bx k = K := ⟨_, rfl⟩
  rw [hKK] at hks hEn ⊢
  rw [hR] at hEn
  have hKl := hks.1
  have c1 : ¬((176 : Nat) : Int) < 176 := by omega
  simp only [c1, sub_zero, qda, qai, List.length_cons, List.length_nil, Nat.reduceAdd, Nat.le_refl, Nat.reduceLeDiff, Nat.reduceLT, true_and, and_true, ↓evA, evB, evs, evp, mkB, repB, blen, ↓retQ, res, resAll, resOne, kill, apartOk, exp, injV, injB, pur, purs, purR, pursR, List.reduceReplicate, Nat.reduceAdd, Nat.reduceMul, Nat.reduceSub, Nat.reduceEqDiff, Nat.reduceLT, Int.reduceToNat, Int.reduceLE, Int.reduceLT, Int.reduceEq, reduceCtorEq, ↓reduceIte]
  refine awp_loopA (n := 178) hA [0, 5, 6, 7, 12] (by decide +kernel) (fun i : Nat => [.slice 4 0 1 256 256, .ptr 5 0, .ptr 6 0, .slice 7 0 1 176 176, .int .i64 i])
    (fun i => [.dead, .dead, .dead, .dead, .ints true .u8 bx, .ints false .u8 (itr (jxR K) b i), .ints false .u8 [0, 0, 0, 0, 0, 0, 0, 0, 0, 0, 0, 0, 0, 0, 0, 0], .ints false .u8 K]) (fun i => i ≤ 16) (fun i => 16 - i) 0 ?_ (by omega) ?_
  · refine Hd.same ?_
    simp only [itr, ↓evA, evB, evs, evp, mkB, repB, blen, ↓retQ, res, resAll, resOne, kill, apartOk, exp, injV, injB, pur, purs, purR, pursR, List.reduceReplicate, Nat.reduceAdd, Nat.reduceMul, Nat.reduceSub, Nat.reduceEqDiff, Nat.reduceLT, Int.reduceToNat, Int.reduceLE, Int.reduceLT, Int.reduceEq, reduceCtorEq, ↓reduceIte]
  intro i hi C hC
  have hji := jxR_ok (K := K) hb i
  simp only [s23, s24]
  by_cases hli : i < 16
  · have d1 : (i : Int) < 16 := by omega
    have wi : Go.IntKind.i64.wrap ((i : Int) + 1) = ((i + 1 : Nat) : Int) := by rw [wrap_i64]; omega
    have hsi : itr (jxR K) b (i + 1) = jxR K (itr (jxR K) b i) i := rfl
    obtain ⟨l, hl⟩ : ∃ l, itr (jxR K) b i = l := ⟨_, rfl⟩
    rw [hl] at hsi hji
    rw [hl]
    rw [jxR] at hsi
    have hll := hji.1
    have i176 : i < 176 := by omega
    simp only [d1, wi, hll, hli, i176, hKl, sub_zero, qda, qai, List.length_cons, List.length_nil, Nat.reduceAdd, Nat.le_refl, Nat.reduceLeDiff, Nat.reduceLT, true_and, and_true, ↓evA, evB, evs, evp, mkB, repB, blen, ↓retQ, res, resAll, resOne, kill, apartOk, exp, injV, injB, pur, purs, purR, pursR, List.reduceReplicate, Nat.reduceAdd, Nat.reduceMul, Nat.reduceSub, Nat.reduceEqDiff, Nat.reduceLT, Int.reduceToNat, Int.reduceLE, Int.reduceLT, Int.reduceEq, reduceCtorEq, ↓reduceIte]
    repeat (refine And.intro (by omega) ?_)
    refine ⟨i + 1, hC _ (by omega) (by omega), Hd.same ?_⟩
    simp only [hsi, ↓evA, evB, evs, evp, mkB, repB, blen, ↓retQ, res, resAll, resOne, kill, apartOk, exp, injV, injB, pur, purs, purR, pursR, List.reduceReplicate, Nat.reduceAdd, Nat.reduceMul, Nat.reduceSub, Nat.reduceEqDiff, Nat.reduceLT, Int.reduceToNat, Int.reduceLE, Int.reduceLT, Int.reduceEq, reduceCtorEq, ↓reduceIte]
  obtain rfl : i = 16 := by omega

  have d1 : ¬((16 : Nat) : Int) < 16 := by omega
  obtain ⟨b0, hb0⟩ : ∃ b0, itr (jxR K) b 16 = b0 := ⟨_, rfl⟩
  rw [hb0] at hji hEn ⊢
  simp only [d1, sub_zero, qda, qai, List.length_cons, List.length_nil, Nat.reduceAdd, Nat.le_refl, Nat.reduceLeDiff, Nat.reduceLT, true_and, and_true, ↓evA, evB, evs, evp, mkB, repB, blen, ↓retQ, res, resAll, resOne, kill, apartOk, exp, injV, injB, pur, purs, purR, pursR, List.reduceReplicate, Nat.reduceAdd, Nat.reduceMul, Nat.reduceSub, Nat.reduceEqDiff, Nat.reduceLT, Int.reduceToNat, Int.reduceLE, Int.reduceLT, Int.reduceEq, reduceCtorEq, ↓reduceIte]
  refine awp_loopA (n := 178) hA [0, 5, 6, 7, 13] (by decide +kernel) (fun m : Nat => [.slice 4 0 1 256 256, .ptr 5 0, .ptr 6 0, .slice 7 0 1 176 176, .int .i64 ((m + 1 : Nat) : Int)])
    (fun m => [.dead, .dead, .dead, .dead, .ints true .u8 bx, .ints false .u8 (itr (rndR bx K) b0 m), .ints false .u8 [0, 0, 0, 0, 0, 0, 0, 0, 0, 0, 0, 0, 0, 0, 0, 0], .ints false .u8 K]) (fun m => m ≤ 10) (fun m => 10 - m) 0 ?_ (by omega) ?_
  · refine Hd.same ?_
    simp only [itr, show ((0 + 1 : Nat) : Int) = 1 from rfl, ↓evA, evB, evs, evp, mkB, repB, blen, ↓retQ, res, resAll, resOne, kill, apartOk, exp, injV, injB, pur, purs, purR, pursR, List.reduceReplicate, Nat.reduceAdd, Nat.reduceMul, Nat.reduceSub, Nat.reduceEqDiff, Nat.reduceLT, Int.reduceToNat, Int.reduceLE, Int.reduceLT, Int.reduceEq, reduceCtorEq, ↓reduceIte]
  intro m hm C hC
  have hrm := rndR_ok (bx := bx) (K := K) hji m
  simp only [s23, s24]
  by_cases hlt : m < 10
  · have c1 : ((m + 1 : Nat) : Int) ≤ 10 := by omega
    have wm : Go.IntKind.i64.wrap (((m + 1 : Nat) : Int) + 1) = ((m + 1 + 1 : Nat) : Int) := by rw [wrap_i64]; omega
    have hst : itr (rndR bx K) b0 (m + 1) = rndR bx K (itr (rndR bx K) b0 m) m := rfl
    obtain ⟨B, hB⟩ : ∃ B, itr (rndR bx K) b0 m = B := ⟨_, rfl⟩
    rw [hB] at hst hrm
    rw [hB]
    rw [rndR] at hst
    have hBl := hrm.1
    simp only [c1, sub_zero, qda, qai, List.length_cons, List.length_nil, Nat.reduceAdd, Nat.le_refl, Nat.reduceLeDiff, Nat.reduceLT, true_and, and_true, ↓evA, evB, evs, evp, mkB, repB, blen, ↓retQ, res, resAll, resOne, kill, apartOk, exp, injV, injB, pur, purs, purR, pursR, List.reduceReplicate, Nat.reduceAdd, Nat.reduceMul, Nat.reduceSub, Nat.reduceEqDiff, Nat.reduceLT, Int.reduceToNat, Int.reduceLE, Int.reduceLT, Int.reduceEq, reduceCtorEq, ↓reduceIte]
    refine awp_loopA (n := 178) hA [0, 5, 6, 7, 13, 14, 15] (by decide +kernel) (fun i : Nat => [.slice 4 0 1 256 256, .ptr 5 0, .ptr 6 0, .slice 7 0 1 176 176, .int .i64 ((m + 1 : Nat) : Int), .ptr 8 0, .int .i64 i])
      (fun i => [.dead, .dead, .dead, .dead, .ints true .u8 bx, .ints false .u8 B, .ints false .u8 [0, 0, 0, 0, 0, 0, 0, 0, 0, 0, 0, 0, 0, 0, 0, 0], .ints false .u8 K, .ints false .u8 (itr (sbR bx B) z16 i)]) (fun i => i ≤ 16) (fun i => 16 - i) 0 ?_ (by omega) ?_
    · refine Hd.same ?_
      simp only [itr, z16, ↓evA, evB, evs, evp, mkB, repB, blen, ↓retQ, res, resAll, resOne, kill, apartOk, exp, injV, injB, pur, purs, purR, pursR, List.reduceReplicate, Nat.reduceAdd, Nat.reduceMul, Nat.reduceSub, Nat.reduceEqDiff, Nat.reduceLT, Int.reduceToNat, Int.reduceLE, Int.reduceLT, Int.reduceEq, reduceCtorEq, ↓reduceIte]
    intro i hi C2 hC2
    have hsi := sbR_ok (b := B) hx i
    simp only [s23, s24]
    by_cases hli : i < 16
    · have d1 : (i : Int) < 16 := by omega
      have wj : Go.IntKind.i64.wrap ((i : Int) + 1) = ((i + 1 : Nat) : Int) := by rw [wrap_i64]; omega
      have w4 : Go.IntKind.i64.wrap (4 * ((i % 4 : Nat) : Int)) = ((4 * (i % 4) : Nat) : Int) := by rw [wrap_i64]; omega
      have w5 : Go.IntKind.i64.wrap ((i : Int) + ((4 * (i % 4) : Nat) : Int)) = ((i + 4 * (i % 4) : Nat) : Int) := by rw [wrap_i64]; omega
      have n4 : ¬ (4 : Int) = 0 := by decide
      have n16 : ¬ (16 : Int) = 0 := by decide
      have hxx : itr (sbR bx B) z16 (i + 1) = sbR bx B (itr (sbR bx B) z16 i) i := rfl
      obtain ⟨s, hs⟩ : ∃ s, itr (sbR bx B) z16 i = s := ⟨_, rfl⟩
      rw [hs] at hxx hsi
      rw [hs]
      rw [sbR] at hxx
      have hsl := hsi.1
      have h16 : (i + 4 * (i % 4)) % 16 < 16 := Nat.mod_lt _ (by decide)
      have hg := hrm.2.all (by decide) ((i + 4 * (i % 4)) % 16)
      have t1 : (getI B ((i + 4 * (i % 4)) % 16)).toNat < 256 := by omega
      simp only [d1, wj, w4, w5, n4, n16, tmod4, tmod16, hli, h16, hsl, hBl, hxl, hg.1, hg.2, t1, sub_zero, qda, qai, List.length_cons, List.length_nil, Nat.reduceAdd, Nat.le_refl, Nat.reduceLeDiff, Nat.reduceLT, true_and, and_true, ↓evA, evB, evs, evp, mkB, repB, blen, ↓retQ, res, resAll, resOne, kill, apartOk, exp, injV, injB, pur, purs, purR, pursR, List.reduceReplicate, Nat.reduceAdd, Nat.reduceMul, Nat.reduceSub, Nat.reduceEqDiff, Nat.reduceLT, Int.reduceToNat, Int.reduceLE, Int.reduceLT, Int.reduceEq, reduceCtorEq, ↓reduceIte]
      repeat (refine And.intro (by omega) ?_)
      refine ⟨i + 1, hC2 _ (by omega) (by omega), Hd.same ?_⟩
      simp only [hxx, ↓evA, evB, evs, evp, mkB, repB, blen, ↓retQ, res, resAll, resOne, kill, apartOk, exp, injV, injB, pur, purs, purR, pursR, List.reduceReplicate, Nat.reduceAdd, Nat.reduceMul, Nat.reduceSub, Nat.reduceEqDiff, Nat.reduceLT, Int.reduceToNat, Int.reduceLE, Int.reduceLT, Int.reduceEq, reduceCtorEq, ↓reduceIte]
    obtain rfl : i = 16 := by omega

    have d1 : ¬((16 : Nat) : Int) < 16 := by omega
    obtain ⟨s, hs⟩ : ∃ s, itr (sbR bx B) z16 16 = s := ⟨_, rfl⟩
    rw [hs] at hsi hst
    rw [hs]
    have hsl := hsi.1
    have bs := fun j => hsi.2.all (by decide) j
    have ws : ∀ j, Go.IntKind.i64.wrap (getI s j) = getI s j := fun j => by have := bs j; rw [wrap_i64]; omega
    simp only [d1, sub_zero, qda, qai, List.length_cons, List.length_nil, Nat.reduceAdd, Nat.le_refl, Nat.reduceLeDiff, Nat.reduceLT, true_and, and_true, ↓evA, evB, evs, evp, mkB, repB, blen, ↓retQ, res, resAll, resOne, kill, apartOk, exp, injV, injB, pur, purs, purR, pursR, List.reduceReplicate, Nat.reduceAdd, Nat.reduceMul, Nat.reduceSub, Nat.reduceEqDiff, Nat.reduceLT, Int.reduceToNat, Int.reduceLE, Int.reduceLT, Int.reduceEq, reduceCtorEq, ↓reduceIte]
    refine awp_loopA (n := 178) hA [0, 5, 6, 7, 13, 14, 16] (by decide +kernel) (fun i : Nat => [.slice 4 0 1 256 256, .ptr 5 0, .ptr 6 0, .slice 7 0 1 176 176, .int .i64 ((m + 1 : Nat) : Int), .ptr 8 0, .int .i64 i])
      (fun i => [.dead, .dead, .dead, .dead, .ints true .u8 bx, .ints false .u8 (itr (rxR s K m) B i), .ints false .u8 [0, 0, 0, 0, 0, 0, 0, 0, 0, 0, 0, 0, 0, 0, 0, 0], .ints false .u8 K, .ints false .u8 s]) (fun i => i ≤ 16) (fun i => 16 - i) 0 ?_ (by omega) ?_
    · refine Hd.same ?_
      simp only [itr, ↓evA, evB, evs, evp, mkB, repB, blen, ↓retQ, res, resAll, resOne, kill, apartOk, exp, injV, injB, pur, purs, purR, pursR, List.reduceReplicate, Nat.reduceAdd, Nat.reduceMul, Nat.reduceSub, Nat.reduceEqDiff, Nat.reduceLT, Int.reduceToNat, Int.reduceLE, Int.reduceLT, Int.reduceEq, reduceCtorEq, ↓reduceIte]
    intro i hi C2 hC2
    have hri := rxR_ok (s := s) (K := K) (m := m) hrm i
    simp only [s23, s24]
    by_cases hli : i < 16
    · have d1 : (i : Int) < 16 := by omega
      have wj : Go.IntKind.i64.wrap ((i : Int) + 1) = ((i + 1 : Nat) : Int) := by rw [wrap_i64]; omega
      have w16 : Go.IntKind.i64.wrap (16 * ((m + 1 : Nat) : Int)) = ((16 * (m + 1) : Nat) : Int) := by rw [wrap_i64]; omega
      have w17 : Go.IntKind.i64.wrap (((16 * (m + 1) : Nat) : Int) + (i : Int)) = ((16 * (m + 1) + i : Nat) : Int) := by rw [wrap_i64]; omega
      have b17 : 16 * (m + 1) + i < 176 := by omega
      have hxx : itr (rxR s K m) B (i + 1) = rxR s K m (itr (rxR s K m) B i) i := rfl
      obtain ⟨u, hu⟩ : ∃ u, itr (rxR s K m) B i = u := ⟨_, rfl⟩
      rw [hu] at hxx hri
      rw [hu]
      rw [rxR] at hxx
      have hul := hri.1
      by_cases h9 : m < 9
      · have e9 : ((m + 1 : Nat) : Int) < 10 := by omega
        have n4 : ¬ (4 : Int) = 0 := by decide
        have q4 : preF4 [.v (.int .i64 (i : Int))] := ⟨i, rfl, hli⟩
        have f4 : F24 [.v (.int .i64 (i : Int))] = .one (.v (.int .i64 ((i / 4 * 4 : Nat) : Int))) := by
          show Out.one (.v (.int .i64 ((((i : Int)).toNat / 4 * 4 : Nat) : Int))) = _
          rw [Int.toNat_natCast]
        have wj2 : Go.IntKind.i64.wrap ((i : Int) + 2) = ((i + 2 : Nat) : Int) := by rw [wrap_i64]; omega
        have wj3 : Go.IntKind.i64.wrap ((i : Int) + 3) = ((i + 3 : Nat) : Int) := by rw [wrap_i64]; omega
        have wq : ∀ j : Nat, Go.IntKind.i64.wrap (((i / 4 * 4 : Nat) : Int) + ((j % 4 : Nat) : Int)) = ((i / 4 * 4 + j % 4 : Nat) : Int) := fun j => by rw [wrap_i64]; omega
        have k1 : i / 4 * 4 + (i + 1) % 4 < 16 := by omega
        have k2 : i / 4 * 4 + (i + 2) % 4 < 16 := by omega
        have k3 : i / 4 * 4 + (i + 3) % 4 < 16 := by omega
        rw [if_pos h9, mixR] at hxx
        simp only [d1, e9, n4, q4, f4, qB, wj, wj2, wj3, wq, w16, w17, ws, tmod4, k1, k2, k3, hli, hsl, hul, hKl, b17, s24, s23, F23, sub_zero, qda, qai, List.length_cons, List.length_nil, Nat.reduceAdd, Nat.le_refl, Nat.reduceLeDiff, Nat.reduceLT, true_and, and_true, ↓evA, evB, evs, evp, mkB, repB, blen, ↓retQ, res, resAll, resOne, kill, apartOk, exp, injV, injB, pur, purs, purR, pursR, List.reduceReplicate, Nat.reduceAdd, Nat.reduceMul, Nat.reduceSub, Nat.reduceEqDiff, Nat.reduceLT, Int.reduceToNat, Int.reduceLE, Int.reduceLT, Int.reduceEq, reduceCtorEq, ↓reduceIte]
        repeat (refine And.intro (by omega) ?_)
        refine ⟨i + 1, hC2 _ (by omega) (by omega), Hd.same ?_⟩
        simp only [hxx, ↓evA, evB, evs, evp, mkB, repB, blen, ↓retQ, res, resAll, resOne, kill, apartOk, exp, injV, injB, pur, purs, purR, pursR, List.reduceReplicate, Nat.reduceAdd, Nat.reduceMul, Nat.reduceSub, Nat.reduceEqDiff, Nat.reduceLT, Int.reduceToNat, Int.reduceLE, Int.reduceLT, Int.reduceEq, reduceCtorEq, ↓reduceIte]
      · have e9 : ¬ ((m + 1 : Nat) : Int) < 10 := by omega
        rw [if_neg h9] at hxx
        simp only [d1, e9, wj, w16, w17, ws, hli, hsl, hul, hKl, b17, sub_zero, qda, qai, List.length_cons, List.length_nil, Nat.reduceAdd, Nat.le_refl, Nat.reduceLeDiff, Nat.reduceLT, true_and, and_true, ↓evA, evB, evs, evp, mkB, repB, blen, ↓retQ, res, resAll, resOne, kill, apartOk, exp, injV, injB, pur, purs, purR, pursR, List.reduceReplicate, Nat.reduceAdd, Nat.reduceMul, Nat.reduceSub, Nat.reduceEqDiff, Nat.reduceLT, Int.reduceToNat, Int.reduceLE, Int.reduceLT, Int.reduceEq, reduceCtorEq, ↓reduceIte]
        repeat (refine And.intro (by omega) ?_)
        refine ⟨i + 1, hC2 _ (by omega) (by omega), Hd.same ?_⟩
        simp only [hxx, ↓evA, evB, evs, evp, mkB, repB, blen, ↓retQ, res, resAll, resOne, kill, apartOk, exp, injV, injB, pur, purs, purR, pursR, List.reduceReplicate, Nat.reduceAdd, Nat.reduceMul, Nat.reduceSub, Nat.reduceEqDiff, Nat.reduceLT, Int.reduceToNat, Int.reduceLE, Int.reduceLT, Int.reduceEq, reduceCtorEq, ↓reduceIte]
    obtain rfl : i = 16 := by omega
    have d1 : ¬((16 : Nat) : Int) < 16 := by omega
    simp only [d1, wm, sub_zero, qda, qai, List.length_cons, List.length_nil, Nat.reduceAdd, Nat.le_refl, Nat.reduceLeDiff, Nat.reduceLT, true_and, and_true, ↓evA, evB, evs, evp, mkB, repB, blen, ↓retQ, res, resAll, resOne, kill, apartOk, exp, injV, injB, pur, purs, purR, pursR, List.reduceReplicate, Nat.reduceAdd, Nat.reduceMul, Nat.reduceSub, Nat.reduceEqDiff, Nat.reduceLT, Int.reduceToNat, Int.reduceLE, Int.reduceLT, Int.reduceEq, reduceCtorEq, ↓reduceIte]
    refine ⟨m + 1, hC _ (by omega) (by omega), Hd.of [0, 1, 2, 3, 4, 5, 6, 7] (by decide) (by decide) (by simp) ?_⟩
    simp only [hst, gc, gcVs, gcV, posOf, gcH, gcB, Option.map_some, Option.map_none, List.replicate_zero, List.drop_zero, ↓evA, evB, evs, evp, mkB, repB, blen, ↓retQ, res, resAll, resOne, kill, apartOk, exp, injV, injB, pur, purs, purR, pursR, List.reduceReplicate, Nat.reduceAdd, Nat.reduceMul, Nat.reduceSub, Nat.reduceEqDiff, Nat.reduceLT, Int.reduceToNat, Int.reduceLE, Int.reduceLT, Int.reduceEq, reduceCtorEq, ↓reduceIte]
  obtain rfl : m = 10 := by omega
  have c1 : ¬((10 + 1 : Nat) : Int) ≤ 10 := by omega
  rw [← hEn] at hrm ⊢
  have hRl : R.length = 16 := hrm.1
  have sR : sub R 0 16 = R := sub_zero hRl
  have pR : spl [0, 0, 0, 0, 0, 0, 0, 0, 0, 0, 0, 0, 0, 0, 0, 0] 0 R = R := qda (by simp [hRl])
  simp only [c1, hRl, sR, pR, sub_zero, qda, qai, List.length_cons, List.length_nil, Nat.reduceAdd, Nat.le_refl, Nat.reduceLeDiff, Nat.reduceLT, true_and, and_true, ↓evA, evB, evs, evp, mkB, repB, blen, ↓retQ, res, resAll, resOne, kill, apartOk, exp, injV, injB, pur, purs, purR, pursR, List.reduceReplicate, Nat.reduceAdd, Nat.reduceMul, Nat.reduceSub, Nat.reduceEqDiff, Nat.reduceLT, Int.reduceToNat, Int.reduceLE, Int.reduceLT, Int.reduceEq, reduceCtorEq, ↓reduceIte]
  repeat (refine And.intro (by omega) ?_)
  simp only [out, outs, out1, pur, and_self]
end Am
