/-
Working texts: contracts of functions, and the numbers behind them.
-/
import Derived.Test.YtdhoblnbonldeaaDoorRfS
set_option linter.unusedSimpArgs false
set_option linter.unusedVariables false
set_option linter.unusedSectionVars false
set_option linter.unusedSimpArgs false
set_option linter.unusedVariables false
set_option maxRecDepth 20000
namespace Am
open Go.Proofs
/-- So many laid over noughts. -/
def cp (xs : List Int) (n i : Nat) : List Int := xs.take i ++ List.replicate (n - i) 0
theorem cp_0 {xs : List Int} {n : Nat} : cp xs n 0 = List.replicate n 0 := by simp [cp]
theorem cp_n {xs : List Int} {n : Nat} (h : xs.length = n) : cp xs n n = xs := by simp [cp, h, List.take_of_length_le]
theorem cp_len {xs : List Int} {n i : Nat} (h : xs.length = n) (hi : i ≤ n) : (cp xs n i).length = n := by simp [cp]; omega
theorem cp_set {xs : List Int} {n i : Nat} (h : xs.length = n) (hi : i < n) : (cp xs n i).set i (getI xs i) = cp xs n (i + 1) := by
  have hl : (xs.take i).length = i := by simp; omega
  rw [cp, cp, List.set_append_right _ _ (by omega), hl, Nat.sub_self, show n - i = (n - (i + 1)) + 1 by omega, List.replicate_succ, List.set_cons_zero, take_getI (by omega), List.append_assoc]
  rfl
def pre31 (ds : List D) : Prop := ∃ b, ds = [.s .u8 b] ∧ Dig 256 b ∧ b.length ≤ 1099511627776
def F31 : List D → Out
  | [.s _ b] => .one (.v (.ints .u8 (sum256 (padded b 64))))
  | _ => bad
def s31 : Summ := sData [.s .u8] pre31 F31
theorem ok31 {g : List Blk} [Ge gl1 g] : SumOK Tryd.prog g 31 s31 ∧ SumAbs s31 := by
  refine fsumA (l := [(57, s57)]) mixed gl1_plain rfl Tryd.func31 comp31 compR31 nt31 (by simp only [List.mem_cons, List.not_mem_nil, or_false, forall_eq]; exact ok57) fun ds ⟨b, hd, hb, hbl⟩ hA => ?_
  subst hd
  simp only [s57]
  have q : pre57 [.s .u8 b, .v (.int .i64 32), .s .i64 rr] := ⟨b, rfl, hb, hbl⟩
  have hr : sub ([7, 18, 3, 17, 19, 10, 6, 11, 25, 2, 13, 22] : List Int) 0 12 = rr := rfl
  have hbs : sub b 0 b.length = b := sub_zero rfl
  obtain ⟨O, hO⟩ : ∃ O, sum256 (padded b 64) = O := ⟨_, rfl⟩
  have hOl : O.length = 32 := by rw [← hO, sum256_len]
  simp only [ir31, rs31, gl1, F31, hr, hbs, q, hO, hOl, s57, F57, sub_zero, qda, qai, List.length_cons, List.length_nil, Nat.reduceAdd, Nat.le_refl, Nat.reduceLeDiff, Nat.reduceLT, true_and, and_true, ↓evA, evB, evs, evp, mkB, repB, blen, ↓retQ, res, resAll, resOne, kill, apartOk, exp, injV, injB, pur, purs, purR, pursR, List.reduceReplicate, Nat.reduceAdd, Nat.reduceMul, Nat.reduceSub, Nat.reduceEqDiff, Nat.reduceLT, Int.reduceToNat, Int.reduceLE, Int.reduceLT, Int.reduceEq, reduceCtorEq, ↓reduceIte]
  refine awp_loopA (n := 20) hA [2, 3, 4, 5] (by decide +kernel) (fun i : Nat => [.ptr 5 0, .ptr 6 0, .slice 7 0 1 32 32, .int .i64 i])
    (fun i => [.ints true .u64 roots, .ints true .u64 roots, .ints true .u64 seconds, .dead, .ints true .u8 b, .ints false .u8 (List.replicate 32 0), .ints false .u8 (cp O 32 i), .ints false .u8 O]) (fun i => i ≤ 32) (fun i => 32 - i) 0 ?_ (by omega) ?_
  · refine Hd.of [0, 1, 2, 3, 4, 5, 6, 8] (by decide) (by decide) (by simp) ?_
    simp only [cp_0, gc, gcVs, gcV, posOf, gcH, gcB, Option.map_some, Option.map_none, List.replicate_zero, List.drop_zero, ↓evA, evB, evs, evp, mkB, repB, blen, ↓retQ, res, resAll, resOne, kill, apartOk, exp, injV, injB, pur, purs, purR, pursR, List.reduceReplicate, Nat.reduceAdd, Nat.reduceMul, Nat.reduceSub, Nat.reduceEqDiff, Nat.reduceLT, Int.reduceToNat, Int.reduceLE, Int.reduceLT, Int.reduceEq, reduceCtorEq, ↓reduceIte]
  intro i hi K hK
  have w1 : Go.IntKind.i64.wrap ((i : Int) + 1) = ((i + 1 : Nat) : Int) := by rw [wrap_i64]; omega
  have hcl := cp_len hOl hi
  by_cases h32 : i < 32
  · have c : (i : Int) < 32 := by omega
    simp only [c, w1, hOl, hcl, cp_set hOl h32, sub_zero, qda, qai, List.length_cons, List.length_nil, Nat.reduceAdd, Nat.le_refl, Nat.reduceLeDiff, Nat.reduceLT, true_and, and_true, ↓evA, evB, evs, evp, mkB, repB, blen, ↓retQ, res, resAll, resOne, kill, apartOk, exp, injV, injB, pur, purs, purR, pursR, List.reduceReplicate, Nat.reduceAdd, Nat.reduceMul, Nat.reduceSub, Nat.reduceEqDiff, Nat.reduceLT, Int.reduceToNat, Int.reduceLE, Int.reduceLT, Int.reduceEq, reduceCtorEq, ↓reduceIte]
    repeat (refine And.intro (by omega) ?_)
    refine ⟨i + 1, hK _ (by omega) (by omega), Hd.same ?_⟩
    simp only [↓evA, evB, evs, evp, mkB, repB, blen, ↓retQ, res, resAll, resOne, kill, apartOk, exp, injV, injB, pur, purs, purR, pursR, List.reduceReplicate, Nat.reduceAdd, Nat.reduceMul, Nat.reduceSub, Nat.reduceEqDiff, Nat.reduceLT, Int.reduceToNat, Int.reduceLE, Int.reduceLT, Int.reduceEq, reduceCtorEq, ↓reduceIte]
  have hi32 : i = 32 := by omega
  subst hi32
  have c : ¬((32 : Nat) : Int) < 32 := by omega
  have sO : sub O 0 32 = O := sub_zero hOl
  simp only [c, cp_n hOl, hOl, sO, sub_zero, qda, qai, List.length_cons, List.length_nil, Nat.reduceAdd, Nat.le_refl, Nat.reduceLeDiff, Nat.reduceLT, true_and, and_true, ↓evA, evB, evs, evp, mkB, repB, blen, ↓retQ, res, resAll, resOne, kill, apartOk, exp, injV, injB, pur, purs, purR, pursR, List.reduceReplicate, Nat.reduceAdd, Nat.reduceMul, Nat.reduceSub, Nat.reduceEqDiff, Nat.reduceLT, Int.reduceToNat, Int.reduceLE, Int.reduceLT, Int.reduceEq, reduceCtorEq, ↓reduceIte]
  exact out_ints rfl
theorem kpad_get {k : List Int} {i : Nat} : getI (kpad k) i = if i < (key0 k).length then getI (key0 k) i else 0 := by
  rw [kpad]
  split
  · rw [getI_append_left (by assumption)]
  · rw [getI_append_right (by omega), getI_replicate0]
theorem map_take {f : Int → Int} {l : List Int} {i : Nat} (h : i < l.length) : (l.map f).take (i + 1) = (l.map f).take i ++ [f (getI l i)] := by
  rw [take_getI (by simpa using h), getI_map h]
def pre15 (ds : List D) : Prop := ∃ (k m : List Int), ds = [.s .u8 k, .s .u8 m] ∧ Dig 256 k ∧ k.length ≤ 549755813888 ∧ Dig 256 m ∧ m.length ≤ 549755813888
def F15 : List D → Out
  | [.s _ k, .s _ m] => .one (.v (.ints .u8 (hmac k m)))
  | _ => bad
def s15 : Summ := sData [.s .u8, .s .u8] pre15 F15
set_option maxHeartbeats 2000000 in
theorem ok15 {g : List Blk} [Ge gl1 g] : SumOK Tryd.prog g 15 s15 ∧ SumAbs s15 := by
  refine fsumA (l := [(31, s31)]) mixed gl1_plain rfl Tryd.func15 comp15 compR15 nt15 (by simp only [List.mem_cons, List.not_mem_nil, or_false, forall_eq]; exact ok31) fun ds ⟨k, m, hd, hk, hkl, hm, hml⟩ hA => ?_
  subst hd
  simp only [s31]
  have sk : sub k 0 k.length = k := sub_zero rfl
  have sm : sub m 0 m.length = m := sub_zero rfl
  obtain ⟨kp, hkp⟩ : ∃ kp, kpad k = kp := ⟨_, rfl⟩
  have hkpl : kp.length = 64 := by rw [← hkp, kpad_len]
  obtain ⟨A, hA'⟩ : ∃ A, (kp.map fun x => bXor .u8 x 54) = A := ⟨_, rfl⟩
  obtain ⟨B, hB'⟩ : ∃ B, (kp.map fun x => bXor .u8 x 92) = B := ⟨_, rfl⟩
  have hAl : A.length = 64 := by rw [← hA']; simpa using hkpl
  have hBl : B.length = 64 := by rw [← hB']; simpa using hkpl
  have hAd : Dig 256 A := by rw [← hA']; exact bXor8_dig _
  have hBd : Dig 256 B := by rw [← hB']; exact bXor8_dig _
  have hAt : ∀ i, i < 64 → A.take (i + 1) = A.take i ++ [bXor .u8 (getI kp i) 54] := fun i hi => by rw [← hA', map_take (by omega)]
  have hBt : ∀ i, i < 64 → B.take (i + 1) = B.take i ++ [bXor .u8 (getI kp i) 92] := fun i hi => by rw [← hB', map_take (by omega)]
  obtain ⟨h1, hh1⟩ : ∃ h1, sum256 (padded (A ++ m) 64) = h1 := ⟨_, rfl⟩
  have hh1l : h1.length = 32 := by rw [← hh1, sum256_len]
  have hh1d : Dig 256 h1 := by rw [← hh1]; exact sum256_dig _
  obtain ⟨h2, hh2⟩ : ∃ h2, sum256 (padded (B ++ h1) 64) = h2 := ⟨_, rfl⟩
  have hh2l : h2.length = 32 := by rw [← hh2, sum256_len]
  have hres : hmac k m = h2 := by rw [hmac, hkp, hA', hh1, hB', hh2]
  have q1 : pre31 [.s .u8 (A ++ m)] := ⟨_, rfl, hAd.append hm, by rw [List.length_append]; omega⟩
  have q2 : pre31 [.s .u8 (B ++ h1)] := ⟨_, rfl, hBd.append hh1d, by rw [List.length_append]; omega⟩
  have q0 : pre31 [.s .u8 k] := ⟨_, rfl, hk, by omega⟩
  have s1 : sub (A ++ m) 0 (64 + m.length) = A ++ m := sub_zero (by rw [List.length_append, hAl])
  have s2 : sub (B ++ h1) 0 (64 + 32) = B ++ h1 := sub_zero (by rw [List.length_append, hBl, hh1l])
  simp only [Nat.reduceAdd] at s2
  have s3 : sub h1 0 32 = h1 := sub_zero hh1l
  have s4 : sub h2 0 32 = h2 := sub_zero hh2l
  have hlA : A.length + m.length = 64 + m.length := by omega
  have tA : A.take 64 = A := List.take_of_length_le (by omega)
  have tB : B.take 64 = B := List.take_of_length_le (by omega)
  have w01 : Go.IntKind.i64.wrap (0 + 1) = 1 := by decide
  obtain ⟨s0, hs0⟩ : ∃ s0, sum256 (padded k 64) = s0 := ⟨_, rfl⟩
  have hs0l : s0.length = 32 := by rw [← hs0, sum256_len]
  by_cases hlong : 64 < k.length
  · have hc : (64 : Int) < k.length := by omega
    have hk0 : key0 k = s0 := by rw [key0, if_pos hlong, hs0]
    have hkl0 : s0.length = 32 := hs0l
    simp only [ir15, rs15, gl1, F15, hc, sk, q0, hs0, hs0l, s31, F31, sub_zero, qda, qai, List.length_cons, List.length_nil, Nat.reduceAdd, Nat.le_refl, Nat.reduceLeDiff, Nat.reduceLT, true_and, and_true, ↓evA, evB, evs, evp, mkB, repB, blen, ↓retQ, res, resAll, resOne, kill, apartOk, exp, injV, injB, pur, purs, purR, pursR, List.reduceReplicate, Nat.reduceAdd, Nat.reduceMul, Nat.reduceSub, Nat.reduceEqDiff, Nat.reduceLT, Int.reduceToNat, Int.reduceLE, Int.reduceLT, Int.reduceEq, reduceCtorEq, ↓reduceIte]
    refine awp_loopA (n := 47) hA [0, 1, 4, 6, 7, 8] (by decide +kernel) (fun i : Nat => [.slice 7 0 1 32 32, .slice 5 0 1 m.length m.length, .ptr 6 0, ap 8 i, ap 9 i, .int .i64 i])
      (fun i => [.ints true .u64 roots, .ints true .u64 roots, .ints true .u64 seconds, .dead, .ints true .u8 k, .ints true .u8 m, .ints false .u8 (List.replicate 32 0), .ints false .u8 s0] ++ (apB .u8 (A.take i) ++ apB .u8 (B.take i))) (fun i => i ≤ 64) (fun i => 64 - i) 0 ?_ (by omega) ?_
    · refine Hd.same ?_
      simp only [ap_0, List.take_zero, apB_nil, ↓evA, evB, evs, evp, mkB, repB, blen, ↓retQ, res, resAll, resOne, kill, apartOk, exp, injV, injB, pur, purs, purR, pursR, List.reduceReplicate, Nat.reduceAdd, Nat.reduceMul, Nat.reduceSub, Nat.reduceEqDiff, Nat.reduceLT, Int.reduceToNat, Int.reduceLE, Int.reduceLT, Int.reduceEq, reduceCtorEq, ↓reduceIte]
    intro i hi K hK
    have w1 : Go.IntKind.i64.wrap ((i : Int) + 1) = ((i + 1 : Nat) : Int) := by rw [wrap_i64]; omega
    by_cases h64 : i < 64
    · have c1 : (i : Int) < 64 := by omega
      have a1 := hAt i h64
      have b1 := hBt i h64
      have la : (A.take i).length = i := by rw [List.length_take]; omega
      have lb : (B.take i).length = i := by rw [List.length_take]; omega
      have pA : apB .u8 (A.take (i + 1)) = [.ints false .u8 (A.take (i + 1))] := apB_pos (by rw [List.length_take]; omega)
      have pB : apB .u8 (B.take (i + 1)) = [.ints false .u8 (B.take (i + 1))] := apB_pos (by rw [List.length_take]; omega)
      rw [a1] at pA
      rw [b1] at pB
      have hg : getI kp i = if i < s0.length then getI s0 i else 0 := by rw [← hkp, kpad_get, hk0]
      by_cases hin : i < s0.length
      all_goals
        first
          | (have c2 : (i : Int) < (32 : Int) := by omega
             rw [if_pos hin] at hg)
          | (have c2 : ¬(i : Int) < (32 : Int) := by omega
             rw [if_neg hin] at hg)
        rw [hg] at a1 b1 pA pB
        by_cases h0 : i = 0
        · have hA0 : ap 8 i = .nils := by rw [h0, ap_0]
          have hB0 : ap 9 i = .nils := by rw [h0, ap_0]
          have ta0 : A.take i = [] := by rw [h0, List.take_zero]
          have tb0 : B.take i = [] := by rw [h0, List.take_zero]
          have hA1 : ap 8 (i + 1) = .slice 8 0 1 1 1 := by rw [h0, ap_s]
          have hB1 : ap 9 (i + 1) = .slice 9 0 1 1 1 := by rw [h0, ap_s]
          rw [ta0, List.nil_append] at a1 pA
          rw [tb0, List.nil_append] at b1 pB
          simp only [c1, c2, w1, hA0, hB0, ta0, tb0, apB_nil, sub_zero, qda, qai, List.length_cons, List.length_nil, Nat.reduceAdd, Nat.le_refl, Nat.reduceLeDiff, Nat.reduceLT, true_and, and_true, ↓evA, evB, evs, evp, mkB, repB, blen, ↓retQ, res, resAll, resOne, kill, apartOk, exp, injV, injB, pur, purs, purR, pursR, List.reduceReplicate, Nat.reduceAdd, Nat.reduceMul, Nat.reduceSub, Nat.reduceEqDiff, Nat.reduceLT, Int.reduceToNat, Int.reduceLE, Int.reduceLT, Int.reduceEq, reduceCtorEq, ↓reduceIte]
          repeat (refine And.intro (by omega) ?_)
          refine ⟨i + 1, hK _ (by omega) (by omega), Hd.of [0, 1, 2, 3, 4, 5, 6, 7, 9, 11] (by decide) (by decide) (by simp) ?_⟩
          simp only [hA1, hB1, a1, b1, pA, pB, hg, gc, gcVs, gcV, posOf, gcH, gcB, Option.map_some, Option.map_none, List.replicate_zero, List.drop_zero, ↓evA, evB, evs, evp, mkB, repB, blen, ↓retQ, res, resAll, resOne, kill, apartOk, exp, injV, injB, pur, purs, purR, pursR, List.reduceReplicate, Nat.reduceAdd, Nat.reduceMul, Nat.reduceSub, Nat.reduceEqDiff, Nat.reduceLT, Int.reduceToNat, Int.reduceLE, Int.reduceLT, Int.reduceEq, reduceCtorEq, ↓reduceIte]
        · obtain ⟨j, rfl⟩ : ∃ j, i = j + 1 := ⟨i - 1, by omega⟩
          have pA0 := apB_pos (k := .u8) (xs := A.take (j + 1)) (by omega)
          have pB0 := apB_pos (k := .u8) (xs := B.take (j + 1)) (by omega)
          simp only [c1, c2, w1, ap_s, pA0, pB0, la, lb, sub_zero, qda, qai, List.length_cons, List.length_nil, Nat.reduceAdd, Nat.le_refl, Nat.reduceLeDiff, Nat.reduceLT, true_and, and_true, ↓evA, evB, evs, evp, mkB, repB, blen, ↓retQ, res, resAll, resOne, kill, apartOk, exp, injV, injB, pur, purs, purR, pursR, List.reduceReplicate, Nat.reduceAdd, Nat.reduceMul, Nat.reduceSub, Nat.reduceEqDiff, Nat.reduceLT, Int.reduceToNat, Int.reduceLE, Int.reduceLT, Int.reduceEq, reduceCtorEq, ↓reduceIte]
          repeat (refine And.intro (by omega) ?_)
          refine ⟨j + 1 + 1, hK _ (by omega) (by omega), Hd.of [0, 1, 2, 3, 4, 5, 6, 7, 11, 13] (by decide) (by decide) (by simp) ?_⟩
          simp only [ap_s, a1, b1, pA, pB, hg, gc, gcVs, gcV, posOf, gcH, gcB, Option.map_some, Option.map_none, List.replicate_zero, List.drop_zero, ↓evA, evB, evs, evp, mkB, repB, blen, ↓retQ, res, resAll, resOne, kill, apartOk, exp, injV, injB, pur, purs, purR, pursR, List.reduceReplicate, Nat.reduceAdd, Nat.reduceMul, Nat.reduceSub, Nat.reduceEqDiff, Nat.reduceLT, Int.reduceToNat, Int.reduceLE, Int.reduceLT, Int.reduceEq, reduceCtorEq, ↓reduceIte]
    have hi64 : i = 64 := by omega
    subst hi64
    have c1 : ¬((64 : Nat) : Int) < 64 := by omega
    have pA := apB_pos (k := .u8) (xs := A) (by omega)
    have pB := apB_pos (k := .u8) (xs := B) (by omega)
    simp only [c1, tA, tB, pA, pB, ap_s (n := 63), hAl, hBl, hlA, sm, s1, s2, s3, s4, q1, q2, hh1, hh1l, hh2, hh2l, hres, s31, F31, sub_zero, qda, qai, List.length_cons, List.length_nil, Nat.reduceAdd, Nat.le_refl, Nat.reduceLeDiff, Nat.reduceLT, true_and, and_true, ↓evA, evB, evs, evp, mkB, repB, blen, ↓retQ, res, resAll, resOne, kill, apartOk, exp, injV, injB, pur, purs, purR, pursR, List.reduceReplicate, Nat.reduceAdd, Nat.reduceMul, Nat.reduceSub, Nat.reduceEqDiff, Nat.reduceLT, Int.reduceToNat, Int.reduceLE, Int.reduceLT, Int.reduceEq, reduceCtorEq, ↓reduceIte]
    repeat (refine And.intro (by omega) ?_)
    exact out_ints rfl
  · have hc : ¬(64 : Int) < k.length := by omega
    have hk0 : key0 k = k := by rw [key0, if_neg hlong]
    have hkl0 : k.length = k.length := rfl
    simp only [ir15, rs15, gl1, F15, hc, sk, q0, hs0, s31, F31, sub_zero, qda, qai, List.length_cons, List.length_nil, Nat.reduceAdd, Nat.le_refl, Nat.reduceLeDiff, Nat.reduceLT, true_and, and_true, ↓evA, evB, evs, evp, mkB, repB, blen, ↓retQ, res, resAll, resOne, kill, apartOk, exp, injV, injB, pur, purs, purR, pursR, List.reduceReplicate, Nat.reduceAdd, Nat.reduceMul, Nat.reduceSub, Nat.reduceEqDiff, Nat.reduceLT, Int.reduceToNat, Int.reduceLE, Int.reduceLT, Int.reduceEq, reduceCtorEq, ↓reduceIte]
    refine awp_loopA (n := 47) hA [0, 1, 4, 6, 7, 8] (by decide +kernel) (fun i : Nat => [.slice 4 0 1 k.length k.length, .slice 5 0 1 m.length m.length, .ptr 6 0, ap 7 i, ap 8 i, .int .i64 i])
      (fun i => [.ints true .u64 roots, .ints true .u64 roots, .ints true .u64 seconds, .dead, .ints true .u8 k, .ints true .u8 m, .ints false .u8 (List.replicate 32 0)] ++ (apB .u8 (A.take i) ++ apB .u8 (B.take i))) (fun i => i ≤ 64) (fun i => 64 - i) 0 ?_ (by omega) ?_
    · refine Hd.same ?_
      simp only [ap_0, List.take_zero, apB_nil, ↓evA, evB, evs, evp, mkB, repB, blen, ↓retQ, res, resAll, resOne, kill, apartOk, exp, injV, injB, pur, purs, purR, pursR, List.reduceReplicate, Nat.reduceAdd, Nat.reduceMul, Nat.reduceSub, Nat.reduceEqDiff, Nat.reduceLT, Int.reduceToNat, Int.reduceLE, Int.reduceLT, Int.reduceEq, reduceCtorEq, ↓reduceIte]
    intro i hi K hK
    have w1 : Go.IntKind.i64.wrap ((i : Int) + 1) = ((i + 1 : Nat) : Int) := by rw [wrap_i64]; omega
    by_cases h64 : i < 64
    · have c1 : (i : Int) < 64 := by omega
      have a1 := hAt i h64
      have b1 := hBt i h64
      have la : (A.take i).length = i := by rw [List.length_take]; omega
      have lb : (B.take i).length = i := by rw [List.length_take]; omega
      have pA : apB .u8 (A.take (i + 1)) = [.ints false .u8 (A.take (i + 1))] := apB_pos (by rw [List.length_take]; omega)
      have pB : apB .u8 (B.take (i + 1)) = [.ints false .u8 (B.take (i + 1))] := apB_pos (by rw [List.length_take]; omega)
      rw [a1] at pA
      rw [b1] at pB
      have hg : getI kp i = if i < k.length then getI k i else 0 := by rw [← hkp, kpad_get, hk0]
      by_cases hin : i < k.length
      all_goals
        first
          | (have c2 : (i : Int) < (k.length : Int) := by omega
             rw [if_pos hin] at hg)
          | (have c2 : ¬(i : Int) < (k.length : Int) := by omega
             rw [if_neg hin] at hg)
        rw [hg] at a1 b1 pA pB
        by_cases h0 : i = 0
        · have hA0 : ap 7 i = .nils := by rw [h0, ap_0]
          have hB0 : ap 8 i = .nils := by rw [h0, ap_0]
          have ta0 : A.take i = [] := by rw [h0, List.take_zero]
          have tb0 : B.take i = [] := by rw [h0, List.take_zero]
          have hA1 : ap 7 (i + 1) = .slice 7 0 1 1 1 := by rw [h0, ap_s]
          have hB1 : ap 8 (i + 1) = .slice 8 0 1 1 1 := by rw [h0, ap_s]
          rw [ta0, List.nil_append] at a1 pA
          rw [tb0, List.nil_append] at b1 pB
          simp only [c1, c2, w1, hA0, hB0, ta0, tb0, apB_nil, sub_zero, qda, qai, List.length_cons, List.length_nil, Nat.reduceAdd, Nat.le_refl, Nat.reduceLeDiff, Nat.reduceLT, true_and, and_true, ↓evA, evB, evs, evp, mkB, repB, blen, ↓retQ, res, resAll, resOne, kill, apartOk, exp, injV, injB, pur, purs, purR, pursR, List.reduceReplicate, Nat.reduceAdd, Nat.reduceMul, Nat.reduceSub, Nat.reduceEqDiff, Nat.reduceLT, Int.reduceToNat, Int.reduceLE, Int.reduceLT, Int.reduceEq, reduceCtorEq, ↓reduceIte]
          repeat (refine And.intro (by omega) ?_)
          refine ⟨i + 1, hK _ (by omega) (by omega), Hd.of [0, 1, 2, 3, 4, 5, 6, 8, 10] (by decide) (by decide) (by simp) ?_⟩
          simp only [hA1, hB1, a1, b1, pA, pB, hg, gc, gcVs, gcV, posOf, gcH, gcB, Option.map_some, Option.map_none, List.replicate_zero, List.drop_zero, ↓evA, evB, evs, evp, mkB, repB, blen, ↓retQ, res, resAll, resOne, kill, apartOk, exp, injV, injB, pur, purs, purR, pursR, List.reduceReplicate, Nat.reduceAdd, Nat.reduceMul, Nat.reduceSub, Nat.reduceEqDiff, Nat.reduceLT, Int.reduceToNat, Int.reduceLE, Int.reduceLT, Int.reduceEq, reduceCtorEq, ↓reduceIte]
        · obtain ⟨j, rfl⟩ : ∃ j, i = j + 1 := ⟨i - 1, by omega⟩
          have pA0 := apB_pos (k := .u8) (xs := A.take (j + 1)) (by omega)
          have pB0 := apB_pos (k := .u8) (xs := B.take (j + 1)) (by omega)
          simp only [c1, c2, w1, ap_s, pA0, pB0, la, lb, sub_zero, qda, qai, List.length_cons, List.length_nil, Nat.reduceAdd, Nat.le_refl, Nat.reduceLeDiff, Nat.reduceLT, true_and, and_true, ↓evA, evB, evs, evp, mkB, repB, blen, ↓retQ, res, resAll, resOne, kill, apartOk, exp, injV, injB, pur, purs, purR, pursR, List.reduceReplicate, Nat.reduceAdd, Nat.reduceMul, Nat.reduceSub, Nat.reduceEqDiff, Nat.reduceLT, Int.reduceToNat, Int.reduceLE, Int.reduceLT, Int.reduceEq, reduceCtorEq, ↓reduceIte]
          repeat (refine And.intro (by omega) ?_)
          refine ⟨j + 1 + 1, hK _ (by omega) (by omega), Hd.of [0, 1, 2, 3, 4, 5, 6, 10, 12] (by decide) (by decide) (by simp) ?_⟩
          simp only [ap_s, a1, b1, pA, pB, hg, gc, gcVs, gcV, posOf, gcH, gcB, Option.map_some, Option.map_none, List.replicate_zero, List.drop_zero, ↓evA, evB, evs, evp, mkB, repB, blen, ↓retQ, res, resAll, resOne, kill, apartOk, exp, injV, injB, pur, purs, purR, pursR, List.reduceReplicate, Nat.reduceAdd, Nat.reduceMul, Nat.reduceSub, Nat.reduceEqDiff, Nat.reduceLT, Int.reduceToNat, Int.reduceLE, Int.reduceLT, Int.reduceEq, reduceCtorEq, ↓reduceIte]
    have hi64 : i = 64 := by omega
    subst hi64
    have c1 : ¬((64 : Nat) : Int) < 64 := by omega
    have pA := apB_pos (k := .u8) (xs := A) (by omega)
    have pB := apB_pos (k := .u8) (xs := B) (by omega)
    simp only [c1, tA, tB, pA, pB, ap_s (n := 63), hAl, hBl, hlA, sm, s1, s2, s3, s4, q1, q2, hh1, hh1l, hh2, hh2l, hres, s31, F31, sub_zero, qda, qai, List.length_cons, List.length_nil, Nat.reduceAdd, Nat.le_refl, Nat.reduceLeDiff, Nat.reduceLT, true_and, and_true, ↓evA, evB, evs, evp, mkB, repB, blen, ↓retQ, res, resAll, resOne, kill, apartOk, exp, injV, injB, pur, purs, purR, pursR, List.reduceReplicate, Nat.reduceAdd, Nat.reduceMul, Nat.reduceSub, Nat.reduceEqDiff, Nat.reduceLT, Int.reduceToNat, Int.reduceLE, Int.reduceLT, Int.reduceEq, reduceCtorEq, ↓reduceIte]
    repeat (refine And.intro (by omega) ?_)
    exact out_ints rfl
def pre16 (ds : List D) : Prop := ∃ (s info : List Int) (n : Nat), ds = [.v (.ints .u8 s), .s .u8 info, .v (.int .i64 n)] ∧ Dig 256 s ∧ s.length = 32 ∧ Dig 256 info ∧ info.length ≤ 274877906944 ∧ n ≤ 8160
def F16 : List D → Out
  | [.v (.ints _ s), .s _ info, .v (.int _ n)] => .one (.s .u8 (expand s info n.toNat))
  | _ => bad
def s16 : Summ := sData [.v, .s .u8, .v] pre16 F16
theorem ok16 {g : List Blk} [Ge gl1 g] : SumOK Tryd.prog g 16 s16 ∧ SumAbs s16 := by
  refine fsumA (l := [(15, s15)]) mixed gl1_plain rfl Tryd.func16 comp16 compR16 nt16 (by simp only [List.mem_cons, List.not_mem_nil, or_false, forall_eq]; exact ok15) fun ds ⟨s, info, m, hd, hs, hsl, hin, hil, hm⟩ hA => ?_
  subst hd
  simp only [s15]
  have es : sub s 0 32 = s := sub_zero hsl
  have ei : sub info 0 info.length = info := sub_zero rfl
  simp only [ir16, rs16, gl1, s15, F15, F16, hsl, sub_zero, qda, qai, List.length_cons, List.length_nil, Nat.reduceAdd, Nat.le_refl, Nat.reduceLeDiff, Nat.reduceLT, true_and, and_true, ↓evA, evB, evs, evp, mkB, repB, blen, ↓retQ, res, resAll, resOne, kill, apartOk, exp, injV, injB, pur, purs, purR, pursR, List.reduceReplicate, Nat.reduceAdd, Nat.reduceMul, Nat.reduceSub, Nat.reduceEqDiff, Nat.reduceLT, Int.reduceToNat, Int.reduceLE, Int.reduceLT, Int.reduceEq, reduceCtorEq, ↓reduceIte]
  refine awp_loopA (n := 37) hA [1, 2, 3, 7, 8, 9] (by decide +kernel) (fun i : Nat => [.slice 4 0 1 info.length info.length, .int .i64 m, .ptr 5 0, sl1 7 (32 * i) i, sl1 6 32 i, .int .i64 (i + 1 : Nat)])
    (fun i => [.ints true .u64 roots, .ints true .u64 roots, .ints true .u64 seconds, .dead, .ints true .u8 info, .ints false .u8 s] ++ bl2 (exps s info i) i)
    (fun i => i ≤ (m + 31) / 32) (fun i => (m + 31) / 32 - i) 0 ?_ (by omega) ?_
  · refine Hd.same ?_
    simp only [sl1_0, bl2_0, ↓evA, evB, evs, evp, mkB, repB, blen, ↓retQ, res, resAll, resOne, kill, apartOk, exp, injV, injB, pur, purs, purR, pursR, List.reduceReplicate, Nat.reduceAdd, Nat.reduceMul, Nat.reduceSub, Nat.reduceEqDiff, Nat.reduceLT, Int.reduceToNat, Int.reduceLE, Int.reduceLT, Int.reduceEq, reduceCtorEq, ↓reduceIte]
  intro i hi K hK
  obtain ⟨o, ho⟩ : ∃ o, (exps s info i).1 = o := ⟨_, rfl⟩
  obtain ⟨la, hla⟩ : ∃ la, (exps s info i).2 = la := ⟨_, rfl⟩
  have hol : o.length = 32 * i := by rw [← ho, exps_len]
  have hlad : Dig 256 la := by rw [← hla]; exact exps_dig i
  have w1 : Go.IntKind.i64.wrap (((i + 1 : Nat) : Int) + 1) = ((i + 1 + 1 : Nat) : Int) := by rw [wrap_i64]; omega
  obtain ⟨h, hh⟩ : ∃ h, hmac s (la ++ (info ++ [((i + 1 : Nat) : Int)])) = h := ⟨_, rfl⟩
  have hhl : h.length = 32 := by rw [← hh, hmac_len]
  have sm : sub h 0 32 = h := sub_zero hhl
  have hst : exps s info (i + 1) = (o ++ h, h) := by rw [exps, ho, hla, hh]
  have hlen : (i = 0 ∧ la = []) ∨ (∃ j, i = j + 1 ∧ la.length = 32) := by
    cases i with
    | zero => exact .inl ⟨rfl, by rw [← hla]; rfl⟩
    | succ j => exact .inr ⟨j, rfl, by rw [← hla, exps_snd, hmac_len]⟩
  by_cases hc : 32 * i < m
  · have hc' : ((32 * i : Nat) : Int) < m := by omega
    have hw8 : Go.IntKind.u8.wrap ((i + 1 : Nat) : Int) = ((i + 1 : Nat) : Int) := by rw [wrap_u8]; omega
    have hd1 : Dig 256 [((i + 1 : Nat) : Int)] := fun x hx => by simp at hx; omega
    have q : pre15 [.s .u8 s, .s .u8 (la ++ (info ++ [((i + 1 : Nat) : Int)]))] := ⟨s, _, rfl, hs, by omega, hlad.append (hin.append hd1), by rcases hlen with ⟨_, e⟩ | ⟨_, _, e⟩ <;> simp [e] <;> omega⟩
    rcases hlen with ⟨rfl, rfl⟩ | ⟨j, rfl, hll⟩
    · have hc0 : (0 : Int) < m := by omega
      have ho0 : o = [] := by rw [← ho]; rfl
      subst ho0
      have si : sub (info ++ [1]) 0 (info.length + 1) = info ++ [1] := sub_zero (by simp)
      simp only [Nat.zero_add, Int.natCast_one, List.nil_append] at hh hw8 w1 hst q
      simp only [sl1_0, sl1_s, bl2_0, bl2_s, hc0, hsl, es, ei, si, q, sm, w1, hw8, hh, hhl, s15, F15, Nat.zero_add, Int.natCast_one, sub_zero, qda, qai, List.length_cons, List.length_nil, Nat.reduceAdd, Nat.le_refl, Nat.reduceLeDiff, Nat.reduceLT, true_and, and_true, ↓evA, evB, evs, evp, mkB, repB, blen, ↓retQ, res, resAll, resOne, kill, apartOk, exp, injV, injB, pur, purs, purR, pursR, List.reduceReplicate, Nat.reduceAdd, Nat.reduceMul, Nat.reduceSub, Nat.reduceEqDiff, Nat.reduceLT, Int.reduceToNat, Int.reduceLE, Int.reduceLT, Int.reduceEq, reduceCtorEq, ↓reduceIte]
      repeat (refine And.intro (by omega) ?_)
      refine ⟨1, hK _ (by omega) (by omega), Hd.of [0, 1, 2, 3, 4, 5, 13, 14] (by decide) (by decide) (by simp) ?_⟩
      simp only [hst, sl1_s (i := 0), bl2_s (i := 0), gc, gcVs, gcV, posOf, gcH, gcB, Option.map_some, Option.map_none, List.replicate_zero, List.drop_zero, ↓evA, evB, evs, evp, mkB, repB, blen, ↓retQ, res, resAll, resOne, kill, apartOk, exp, injV, injB, pur, purs, purR, pursR, List.reduceReplicate, Nat.reduceAdd, Nat.reduceMul, Nat.reduceSub, Nat.reduceEqDiff, Nat.reduceLT, Int.reduceToNat, Int.reduceLE, Int.reduceLT, Int.reduceEq, reduceCtorEq, ↓reduceIte]
    · have sla : sub la 0 32 = la := sub_zero hll
      have si : sub (la ++ (info ++ [((j + 1 + 1 : Nat) : Int)])) 0 (32 + info.length + 1) = la ++ (info ++ [((j + 1 + 1 : Nat) : Int)]) := sub_zero (by simp; omega)
      have e1 : 32 * (j + 1) + 32 = 32 * (j + 1 + 1) := by omega
      have e2 : la.length + info.length = 32 + info.length := by omega
      simp only [sl1_0, sl1_s, bl2_0, bl2_s, hc', hsl, es, ei, q, sm, sla, si, w1, hw8, hh, hhl, ho, hla, hll, e2, s15, F15, sub_zero, qda, qai, List.length_cons, List.length_nil, Nat.reduceAdd, Nat.le_refl, Nat.reduceLeDiff, Nat.reduceLT, true_and, and_true, ↓evA, evB, evs, evp, mkB, repB, blen, ↓retQ, res, resAll, resOne, kill, apartOk, exp, injV, injB, pur, purs, purR, pursR, List.reduceReplicate, Nat.reduceAdd, Nat.reduceMul, Nat.reduceSub, Nat.reduceEqDiff, Nat.reduceLT, Int.reduceToNat, Int.reduceLE, Int.reduceLT, Int.reduceEq, reduceCtorEq, ↓reduceIte]
      repeat (refine And.intro (by omega) ?_)
      refine ⟨j + 1 + 1, hK _ (by omega) (by omega), Hd.of [0, 1, 2, 3, 4, 5, 15, 16] (by decide) (by decide) (by simp) ?_⟩
      simp only [hst, sl1_s, bl2_s, e1, gc, gcVs, gcV, posOf, gcH, gcB, Option.map_some, Option.map_none, List.replicate_zero, List.drop_zero, ↓evA, evB, evs, evp, mkB, repB, blen, ↓retQ, res, resAll, resOne, kill, apartOk, exp, injV, injB, pur, purs, purR, pursR, List.reduceReplicate, Nat.reduceAdd, Nat.reduceMul, Nat.reduceSub, Nat.reduceEqDiff, Nat.reduceLT, Int.reduceToNat, Int.reduceLE, Int.reduceLT, Int.reduceEq, reduceCtorEq, ↓reduceIte]
  · have hc' : ¬((32 * i : Nat) : Int) < m := by omega
    rcases hlen with ⟨rfl, rfl⟩ | ⟨j, rfl, hll⟩
    · have hc0 : ¬(0 : Int) < m := by omega
      simp only [sl1_0, sl1_s, bl2_0, bl2_s, hc0, sub_zero, qda, qai, List.length_cons, List.length_nil, Nat.reduceAdd, Nat.le_refl, Nat.reduceLeDiff, Nat.reduceLT, true_and, and_true, ↓evA, evB, evs, evp, mkB, repB, blen, ↓retQ, res, resAll, resOne, kill, apartOk, exp, injV, injB, pur, purs, purR, pursR, List.reduceReplicate, Nat.reduceAdd, Nat.reduceMul, Nat.reduceSub, Nat.reduceEqDiff, Nat.reduceLT, Int.reduceToNat, Int.reduceLE, Int.reduceLT, Int.reduceEq, reduceCtorEq, ↓reduceIte]
      have hm0 : m = 0 := by omega
      subst hm0
      refine ⟨by omega, by omega, ?_⟩
      simp [out, outs, out1, pur, expand]
    · simp only [sl1_0, sl1_s, bl2_0, bl2_s, hc', ho, hla, sub_zero, qda, qai, List.length_cons, List.length_nil, Nat.reduceAdd, Nat.le_refl, Nat.reduceLeDiff, Nat.reduceLT, true_and, and_true, ↓evA, evB, evs, evp, mkB, repB, blen, ↓retQ, res, resAll, resOne, kill, apartOk, exp, injV, injB, pur, purs, purR, pursR, List.reduceReplicate, Nat.reduceAdd, Nat.reduceMul, Nat.reduceSub, Nat.reduceEqDiff, Nat.reduceLT, Int.reduceToNat, Int.reduceLE, Int.reduceLT, Int.reduceEq, reduceCtorEq, ↓reduceIte]
      have hm1 : (m + 31) / 32 = j + 1 := by omega
      refine ⟨by omega, by omega, out_sl (b := 7) (ys := o) rfl (by omega) (by omega) ?_⟩
      rw [expand, hm1, ho]
      simp [sub]
def pre17 (ds : List D) : Prop := ∃ (lab ctx : List Int) (n : Nat), ds = [.v (.str lab), .s .u8 ctx, .v (.int .i64 n)] ∧ Dig 256 lab ∧ lab.length ≤ 1000000 ∧ Dig 256 ctx ∧ ctx.length ≤ 274877906944 ∧ n < 65536
def F17 : List D → Out
  | [.v (.str lab), .s _ ctx, .v (.int _ n)] => .one (.s .u8 (labinfo lab ctx n))
  | _ => bad
def s17 : Summ := sData [.v, .s .u8, .v] pre17 F17
theorem ok17 {g : List Blk} [Ge gl1 g] : SumOK Tryd.prog g 17 s17 ∧ SumAbs s17 := by
  refine fsumA (l := []) mixed gl1_plain rfl Tryd.func17 comp17 compR17 nt17 (by simp) fun ds ⟨lab, ctx, n, hd, hlab, hll, hctx, hcl, hn⟩ hA => ?_
  subst hd
  have ec : sub ctx 0 ctx.length = ctx := sub_zero rfl
  have n2 : ¬ (256 : Int) = 0 := by decide
  have e1 : Go.IntKind.u8.wrap (Go.IntKind.i64.wrap ((n : Int).tdiv 256)) = Go.IntKind.u8.wrap (iShr .i64 (n : Int) 8) := by
    have h3 : iShr .i64 (n : Int) 8 = (n : Int) / 256 := by simp only [iShr, Go.IntKind.bits]; rw [Int.fdiv_eq_ediv_of_nonneg _ (by decide)]; rfl
    rw [h3, wrap_u8, wrap_u8, wrap_i64, Int.tdiv_eq_ediv_of_nonneg (by omega)]; omega
  have e2 : Go.IntKind.u8.wrap ((n : Int).tmod 256) = Go.IntKind.u8.wrap (n : Int) := by
    rw [wrap_u8, wrap_u8, Int.tmod_eq_emod_of_nonneg (by omega)]; omega
  have hsub6 : ∀ l : List Int, sub ((116 : Int) :: 108 :: 115 :: 49 :: 51 :: 32 :: l) 0 (l.length + 6) = 116 :: 108 :: 115 :: 49 :: 51 :: 32 :: l := fun l => sub_zero (by simp)
  simp only [ir17, rs17, gl1, F17, n2, e1, e2, ec, sub_zero, qda, qai, List.length_cons, List.length_nil, Nat.reduceAdd, Nat.le_refl, Nat.reduceLeDiff, Nat.reduceLT, true_and, and_true, ↓evA, evB, evs, evp, mkB, repB, blen, ↓retQ, res, resAll, resOne, kill, apartOk, exp, injV, injB, pur, purs, purR, pursR, List.reduceReplicate, Nat.reduceAdd, Nat.reduceMul, Nat.reduceSub, Nat.reduceEqDiff, Nat.reduceLT, Int.reduceToNat, Int.reduceLE, Int.reduceLT, Int.reduceEq, reduceCtorEq, ↓reduceIte]
  repeat (refine And.intro (by omega) ?_)
  exact out_sl (b := 10) rfl (by omega) (by simp; omega) (sub_zero (by simp; omega))
end Am
