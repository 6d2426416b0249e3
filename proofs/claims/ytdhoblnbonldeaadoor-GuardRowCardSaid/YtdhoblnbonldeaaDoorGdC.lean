/-
Working texts: contracts of functions, and the numbers behind them.
-/
import Derived.Test.YtdhoblnbonldeaaDoorGdA
set_option linter.unusedSimpArgs false
set_option linter.unusedVariables false
set_option linter.unusedSectionVars false
set_option linter.unusedSimpArgs false
set_option linter.unusedVariables false
set_option maxRecDepth 20000
namespace Am
open Go.Proofs
/-! ### A head of data -/
def fb (n : Nat) : Int := bOr .u8 64 (Go.IntKind.u8.wrap ((n : Int) - 1))
def nmb (pn : Int) (n : Nat) : Nat → List Int
  | 0 => []
  | j + 1 => nmb pn n j ++ [Go.IntKind.u8.wrap (iShr .u64 pn ((8 * (n - 1 - j) : Nat) : Int))]
def headF (to : List Int) (pn : Int) (n : Nat) : List Int := fb n :: to ++ nmb pn n n
theorem nmb_len (pn : Int) (n : Nat) : ∀ j, (nmb pn n j).length = j
  | 0 => rfl
  | j + 1 => by simp [nmb, nmb_len pn n j]
theorem nmb_dig (pn : Int) (n : Nat) : ∀ j, Dig 256 (nmb pn n j)
  | 0 => fun x hx => by simp [nmb] at hx
  | j + 1 => (nmb_dig pn n j).append fun x hx => by
    simp only [List.mem_singleton] at hx
    subst hx
    exact w8_bd _
def Frm (v : V) : Prop := v = .nils ∨ ∃ (n : Nat) (xs : List Int), v = .rsl 1 n .u8 xs
theorem Frm.pur {v : V} (h : Frm v) : purR v = true := by rcases h with rfl | ⟨n, xs, rfl⟩ <;> rfl
theorem Frm.gc {v : V} (h : Frm v) (keep : List Nat) : gcV keep v = v := by rcases h with rfl | ⟨n, xs, rfl⟩ <;> rfl
def prePut (ds : List D) : Prop := ∃ (to : List Int) (fr : V) (pn : Int) (n size : Nat), ds = [.v (.agg [.int .i64 2, .rsl 1 8 .u8 to, fr]), .v (.int .u64 pn), .v (.int .i64 (n : Int)), .v (.int .i64 (size : Int))] ∧ to.length = 8 ∧ Frm fr ∧ 1 ≤ n ∧ n ≤ 4 ∧ size ≤ 1200
def F42 : List D → Out
  | [.v (.agg [_, .rsl _ _ _ to, _]), .v (.int _ pn), .v (.int _ n), _] => .many [.s .u8 (headF to pn n.toNat), .v (.int .i64 0)]
  | _ => bad
def s42 : Summ := sData [.r, .v, .v, .v] prePut F42
set_option maxHeartbeats 2000000 in
theorem ok42 {g : List Blk} [Ge gl g] : SumOK Tryd.prog g 42 s42 ∧ SumAbs s42 := by
  refine fsumA (l := []) mixed gl_plain rfl Tryd.func42 comp42 compR42 nt42 (by simp) fun ds ⟨to, fr, pn, n, size, hd, htl, hfr, hn1, hn4, hsz⟩ hA => ?_
  subst hd
  have hF : F42 [.v (.agg [.int .i64 2, .rsl 1 8 .u8 to, fr]), .v (.int .u64 pn), .v (.int .i64 (n : Int)), .v (.int .i64 (size : Int))] = .many [.s .u8 (fb n :: to ++ nmb pn n n), .v (.int .i64 0)] := rfl
  have hgc := hfr.gc
  have hpf := hfr.pur
  have c1 : ¬ (n : Int) < 1 := by omega
  have c2 : ¬ (4 : Int) < (n : Int) := by omega
  have c3 : ¬ (size : Int) < 0 := by omega
  have c4 : ¬ (1200 : Int) < (size : Int) := by omega
  have wn : Go.IntKind.i64.wrap ((n : Int) - 1) = (n : Int) - 1 := by rw [wrap_i64]; omega
  have hfb : bOr .u8 64 (Go.IntKind.u8.wrap ((n : Int) - 1)) = fb n := rfl
  simp only [ir42, rs42, gl, hF, htl, c1, c2, c3, c4, wn, hfb, show ((8 : Nat) : Int) = 8 from rfl, sub_zero, qdb, qai, List.length_cons, List.length_nil, Nat.reduceAdd, Nat.le_refl, Nat.reduceLeDiff, Nat.reduceLT, true_and, and_true, ↓evA, evB, evs, evp, mkB, repB, blen, ↓retQ, res, resAll, resOne, kill, apartOk, exp, injV, injB, pur, purs, purR, pursR, List.reduceReplicate, Nat.reduceAdd, Nat.reduceMul, Nat.reduceSub, Nat.reduceEqDiff, Nat.reduceLT, Int.reduceToNat, Int.reduceLE, Int.reduceLT, Int.reduceEq, reduceCtorEq, ↓reduceIte]
  refine awp_loopA (n := 110) hA [1, 10, 12] (by decide +kernel) (fun j : Nat => [.int .u64 pn, .slice 6 0 1 (9 + j) (9 + j), .int .i64 ((n : Int) - 1 - (j : Int))])
    (fun j => [.ints true .u64 roots, .dead, .dead, .dead, .cells false [.int .i64 2, .rsl 1 8 .u8 to, fr], .dead, .ints false .u8 (fb n :: to ++ nmb pn n j)]) (fun j => j ≤ n) (fun j => n - j) 0 ?_ (by omega) ?_
  · refine Hd.same ?_
    simp only [nmb, show ((0 : Nat) : Int) = 0 from rfl, Int.sub_zero, ↓evA, evB, evs, evp, mkB, repB, blen, ↓retQ, res, resAll, resOne, kill, apartOk, exp, injV, injB, pur, purs, purR, pursR, List.reduceReplicate, Nat.reduceAdd, Nat.reduceMul, Nat.reduceSub, Nat.reduceEqDiff, Nat.reduceLT, Int.reduceToNat, Int.reduceLE, Int.reduceLT, Int.reduceEq, reduceCtorEq, ↓reduceIte]
  intro j hj K hK
  by_cases hlt : j < n
  · have d1 : (0 : Int) ≤ (n : Int) - 1 - (j : Int) := by omega
    have w8 : Go.IntKind.i64.wrap (8 * ((n : Int) - 1 - (j : Int))) = ((8 * (n - 1 - j) : Nat) : Int) := by rw [wrap_i64]; omega
    have wi : Go.IntKind.i64.wrap ((n : Int) - 1 - (j : Int) - 1) = (n : Int) - 1 - ((j + 1 : Nat) : Int) := by rw [wrap_i64]; omega
    have hst : fb n :: to ++ nmb pn n (j + 1) = (fb n :: to ++ nmb pn n j) ++ [Go.IntKind.u8.wrap (iShr .u64 pn ((8 * (n - 1 - j) : Nat) : Int))] := by rw [nmb, List.append_assoc]
    have hyl : (fb n :: to ++ nmb pn n j).length = 9 + j := by simp [htl, nmb_len]; omega
    obtain ⟨Y, hY⟩ : ∃ Y, fb n :: to ++ nmb pn n j = Y := ⟨_, rfl⟩
    rw [hY] at hst hyl
    have hst' := hst
    simp only [List.cons_append] at hY hst'
    simp only [d1, w8, wi, hY, hyl, sub_zero, qdb, qai, List.length_cons, List.length_nil, Nat.reduceAdd, Nat.le_refl, Nat.reduceLeDiff, Nat.reduceLT, true_and, and_true, ↓evA, evB, evs, evp, mkB, repB, blen, ↓retQ, res, resAll, resOne, kill, apartOk, exp, injV, injB, pur, purs, purR, pursR, List.reduceReplicate, Nat.reduceAdd, Nat.reduceMul, Nat.reduceSub, Nat.reduceEqDiff, Nat.reduceLT, Int.reduceToNat, Int.reduceLE, Int.reduceLT, Int.reduceEq, reduceCtorEq, ↓reduceIte]
    repeat (refine And.intro (by omega) ?_)
    refine ⟨j + 1, hK _ (by omega) (by omega), Hd.of [0, 1, 2, 3, 4, 5, 8] (by decide) (by decide) (by simp) ?_⟩
    simp only [hst', hgc, ← Nat.add_assoc, gc, gcVs, gcV, posOf, gcH, gcB, Option.map_some, Option.map_none, List.replicate_zero, List.drop_zero, ↓evA, evB, evs, evp, mkB, repB, blen, ↓retQ, res, resAll, resOne, kill, apartOk, exp, injV, injB, pur, purs, purR, pursR, List.reduceReplicate, Nat.reduceAdd, Nat.reduceMul, Nat.reduceSub, Nat.reduceEqDiff, Nat.reduceLT, Int.reduceToNat, Int.reduceLE, Int.reduceLT, Int.reduceEq, reduceCtorEq, ↓reduceIte]
  obtain rfl : j = n := by omega
  have d1 : ¬ (0 : Int) ≤ (j : Int) - 1 - (j : Int) := by omega
  have hyl : (fb j :: to ++ nmb pn j j).length = 9 + j := by simp [htl, nmb_len]; omega
  obtain ⟨Y, hY⟩ : ∃ Y, fb j :: to ++ nmb pn j j = Y := ⟨_, rfl⟩
  rw [hY] at hF hyl
  simp only [List.cons_append] at hY
  have sY : sub Y 0 (9 + j) = Y := sub_zero hyl
  simp only [d1, hY, hF, sub_zero, qdb, qai, List.length_cons, List.length_nil, Nat.reduceAdd, Nat.le_refl, Nat.reduceLeDiff, Nat.reduceLT, true_and, and_true, ↓evA, evB, evs, evp, mkB, repB, blen, ↓retQ, res, resAll, resOne, kill, apartOk, exp, injV, injB, pur, purs, purR, pursR, List.reduceReplicate, Nat.reduceAdd, Nat.reduceMul, Nat.reduceSub, Nat.reduceEqDiff, Nat.reduceLT, Int.reduceToNat, Int.reduceLE, Int.reduceLT, Int.reduceEq, reduceCtorEq, ↓reduceIte]
  simp only [out, outs, out1, pur, hyl, sY, Nat.zero_add, out, outs, out1, pur, purs, qcz, qc0, List.not_mem_nil, not_false_eq_true, true_and, and_true, Nat.reduceLeDiff, Nat.le_refl]
/-! ### A sealed packet -/
def padF (n : Nat) (b : List Int) : List Int := if n + b.length < 4 then b ++ List.replicate (4 - n - b.length) 0 else b
def pktF (k to : List Int) (pn ac : Nat) (b : List Int) : List Int :=
  hidF k (headF to pn (shortN (pn - ac)) ++ sealF (sub k 0 16) (nonF k pn) (headF to pn (shortN (pn - ac))) (padF (shortN (pn - ac)) b)) 9 false
def preGS (ds : List D) : Prop := ∃ (k to : List Int) (fr : V) (pn ac : Nat) (b : List Int), ds = [.v (.ints .u8 k), .v (.agg [.int .i64 2, .rsl 1 8 .u8 to, fr]), .v (.int .u64 (pn : Int)), .v (.int .u64 (ac : Int)), .s .u8 b] ∧
  K44 k ∧ to.length = 8 ∧ Dig 256 to ∧ Frm fr ∧ ac ≤ pn ∧ pn < 4611686018427387904 ∧ Dig 256 b ∧ b.length ≤ 200
def F20 : List D → Out
  | [.v (.ints _ k), .v (.agg [_, .rsl _ _ _ to, _]), .v (.int _ pn), .v (.int _ ac), .s _ b] => .many [.s .u8 (pktF k to pn.toNat ac.toNat b), .v (.int .i64 0)]
  | _ => bad
def s20 : Summ := sData [.v, .r, .v, .v, .s .u8] preGS F20
theorem shortN_le (d : Nat) : 1 ≤ shortN d ∧ shortN d ≤ 4 := by 
  unfold shortN
  split
  · omega
  split
  · omega
  split <;> omega
theorem headF_len {to : List Int} (h : to.length = 8) (pn : Int) (n : Nat) : (headF to pn n).length = 9 + n := by simp [headF, h, nmb_len]; omega
theorem fb_bt (n : Nat) : Bt (fb n) := by unfold fb bOr; exact w8_bd _
theorem headF_dig {to : List Int} (h : Dig 256 to) (pn : Int) (n : Nat) : Dig 256 (headF to pn n) := by
  intro x hx
  simp only [headF, List.cons_append, List.mem_cons, List.mem_append] at hx
  rcases hx with rfl | hx | hx
  · exact fb_bt n
  · exact h x hx
  · exact nmb_dig pn n n x hx
theorem padF_ok {n : Nat} {b : List Int} (hb : Dig 256 b) (h : 1 ≤ n) : Dig 256 (padF n b) ∧ 4 ≤ n + (padF n b).length ∧ (padF n b).length ≤ b.length + 3 := by
  unfold padF
  split
  · exact ⟨hb.append fun x hx => by rw [(List.mem_replicate.1 hx).2]; decide, by simp; omega, by simp; omega⟩
  · exact ⟨hb, by omega, by omega⟩
set_option maxHeartbeats 4000000 in
theorem ok20 {g : List Blk} [Ge gl g] : SumOK Tryd.prog g 20 s20 ∧ SumAbs s20 := by
  refine fsumA (l := [(41, s41), (42, s42), (44, s44), (43, s43), (45, s45)]) mixed gl_plain rfl Tryd.func20 comp20 compR20 nt20 (by simp only [List.mem_cons, List.not_mem_nil, or_false, forall_eq_or_imp, forall_eq]; exact ⟨ok41, ok42, ok44, ok43, ok45⟩) fun ds ⟨k, to, fr, pn, ac, b, hd, hk, htl, htd, hfr, hac, hpn, hb, hbl⟩ hA => ?_
  subst hd
  have hkl := hk.1
  have hF : F20 [.v (.ints .u8 k), .v (.agg [.int .i64 2, .rsl 1 8 .u8 to, fr]), .v (.int .u64 (pn : Int)), .v (.int .u64 (ac : Int)), .s .u8 b] = .many [.s .u8 (pktF k to pn ac b), .v (.int .i64 0)] := rfl
  have hP : pktF k to pn ac b = hidF k (headF to pn (shortN (pn - ac)) ++ sealF (sub k 0 16) (nonF k pn) (headF to pn (shortN (pn - ac))) (padF (shortN (pn - ac)) b)) 9 false := rfl
  have c1 : ¬ (4611686018427387903 : Int) < (pn : Int) := by omega
  have c2 : ¬ (pn : Int) < (ac : Int) := by omega
  have q1 : preShort [.v (.int .u64 (pn : Int)), .v (.int .u64 (ac : Int))] := ⟨pn, ac, rfl, hac, hpn⟩
  have f1 : F41 [.v (.int .u64 (pn : Int)), .v (.int .u64 (ac : Int))] = .one (.v (.int .i64 (shortN (pn - ac) : Nat))) := rfl
  have hn := shortN_le (pn - ac)
  obtain ⟨n, hne⟩ : ∃ n, shortN (pn - ac) = n := ⟨_, rfl⟩
  rw [hne] at f1 hn hP
  have wl : Go.IntKind.i64.wrap ((n : Int) + (b.length : Int)) = ((n + b.length : Nat) : Int) := by rw [wrap_i64]; omega
  obtain ⟨hpd, hp4, hpl⟩ := padF_ok (n := n) hb hn.1
  have hpe : padF n b = if n + b.length < 4 then b ++ List.replicate (4 - n - b.length) 0 else b := rfl
  obtain ⟨p, hpp⟩ : ∃ p, padF n b = p := ⟨_, rfl⟩
  rw [hpp] at hpd hp4 hpl hpe hP
  have wp : Go.IntKind.i64.wrap ((p.length : Int) + 16) = ((p.length + 16 : Nat) : Int) := by rw [wrap_i64]; omega
  have q2 : prePut [.v (.agg [.int .i64 2, .rsl 1 8 .u8 to, fr]), .v (.int .u64 (pn : Int)), .v (.int .i64 (n : Int)), .v (.int .i64 ((p.length + 16 : Nat) : Int))] := ⟨to, fr, pn, n, p.length + 16, rfl, htl, hfr, hn.1, hn.2, by omega⟩
  have f2 : F42 [.v (.agg [.int .i64 2, .rsl 1 8 .u8 to, fr]), .v (.int .u64 (pn : Int)), .v (.int .i64 (n : Int)), .v (.int .i64 ((p.length + 16 : Nat) : Int))] = .many [.s .u8 (headF to pn n), .v (.int .i64 0)] := rfl
  have hhl := headF_len htl pn n
  have hhd := headF_dig htd pn n
  obtain ⟨H, hH⟩ : ∃ H, headF to pn n = H := ⟨_, rfl⟩
  rw [hH] at f2 hhl hhd hP
  have wat : Go.IntKind.i64.wrap (((9 + n : Nat) : Int) - (n : Int)) = 9 := by rw [wrap_i64]; omega
  have q3 : preNon [.v (.ints .u8 k), .v (.int .u64 (pn : Int))] := ⟨k, pn, rfl, hk⟩
  have f3 : F44 [.v (.ints .u8 k), .v (.int .u64 (pn : Int))] = .one (.v (.ints .u8 (nonF k pn))) := rfl
  have hN : B12 (nonF k pn) := nonS_ok hk 8
  obtain ⟨N, hNe⟩ : ∃ N, nonF k pn = N := ⟨_, rfl⟩
  rw [hNe] at f3 hN hP
  have hK : B16 (sub k 0 16) := ⟨by simp [sub, hkl], sub_dig' hk.2⟩
  obtain ⟨ky, hky⟩ : ∃ ky, sub k 0 16 = ky := ⟨_, rfl⟩
  rw [hky] at hK hP
  have q4 : preSl [.v (.ints .u8 ky), .v (.ints .u8 N), .s .u8 H, .s .u8 p] := ⟨_, _, _, _, rfl, hK, hN, hhd, by omega, hpd, by omega⟩
  have f4 : F43 [.v (.ints .u8 ky), .v (.ints .u8 N), .s .u8 H, .s .u8 p] = .one (.s .u8 (sealF ky N H p)) := rfl
  have hSl := seal_len ky N H p
  have hSd := seal_dig ky N H p
  obtain ⟨S, hS⟩ : ∃ S, sealF ky N H p = S := ⟨_, rfl⟩
  rw [hS] at f4 hSl hSd hP
  have hQl : (H ++ S).length = 9 + n + (p.length + 16) := by rw [List.length_append, hhl, hSl]
  have q5 : preHid [.v (.ints .u8 k), .w .u8 (H ++ S), .v (.int .i64 9), .v (.bool false)] := ⟨k, H ++ S, 9, false, rfl, hk, hhd.append hSd, by omega, by omega, by omega⟩
  have f5 : F45 [.v (.ints .u8 k), .w .u8 (H ++ S), .v (.int .i64 9), .v (.bool false)] = ([[.v (.ints .u8 (hidF k (H ++ S) 9 false))]], .one (.v (.int .i64 (hcnt k (H ++ S) 9 false : Int)))) := rfl
  have hRl : (hidF k (H ++ S) 9 false).length = (H ++ S).length := by
    rw [hidF, hidS_len, hfst, List.length_set]
  rw [← hP] at f5 hRl
  obtain ⟨R, hR⟩ : ∃ R, pktF k to pn ac b = R := ⟨_, rfl⟩
  rw [hR] at f5 hRl hF
  rw [hQl] at hRl
  have sk : sub k 0 44 = k := sub_zero hkl
  have hkyl := hK.1
  have hNl := hN.1
  have sb := qdd b
  have sp := qdd p
  have sH : sub H 0 (9 + n) = H := sub_zero hhl
  have sS : sub S 0 (p.length + 16) = S := sub_zero hSl
  have hpf := hfr.pur
  have hgc := hfr.gc
  have hag : agI [V.int .i64 2, .rsl 1 8 .u8 to, fr] = .agg [V.int .i64 2, .rsl 1 8 .u8 to, fr] := rfl
  have hpr3 : pursR [V.int .i64 2, .rsl 1 8 .u8 to, fr] = true := by simp [pursR, purR, hpf]
  have hs3 : sub [V.int .i64 2, .rsl 1 8 .u8 to, fr] 0 3 = [V.int .i64 2, .rsl 1 8 .u8 to, fr] := rfl
  simp only [s45, s41, s42, s44, s43]
  by_cases h4 : n + b.length < 4
  · have c3 : ((n + b.length : Nat) : Int) < 4 := by omega
    rw [if_pos h4] at hpe
    have wz1 : Go.IntKind.i64.wrap (4 - (n : Int)) = ((4 - n : Nat) : Int) := by rw [wrap_i64]; omega
    have wz2 : Go.IntKind.i64.wrap (((4 - n : Nat) : Int) - (b.length : Int)) = ((4 - n - b.length : Nat) : Int) := by rw [wrap_i64]; omega
    have hpl2 : p.length = b.length + (4 - n - b.length) := by rw [hpe]; simp
    have hl' := hpl2.symm
    have hpe' := hpe.symm
    simp only [ir20, rs20, gl, hF, c1, c2, c3, hag, hs3, ↓hpr3, q1, f1, wl, wz1, wz2, hl', hpe', wp, q2, f2, hpf, hhl, wat, q3, f3, hNl, hky, hkyl, q4, f4, hSl, hQl, sH, sb, sp, sS, sk, hkl, q5, f5, hRl, sub_zero, qdb, qai, List.length_cons, List.length_nil, Nat.reduceAdd, Nat.le_refl, Nat.reduceLeDiff, Nat.reduceLT, true_and, and_true, ↓qar, ↓qan, ↓qao, ↓qap, ↓qam, ↓qaj, ↓qak, ↓qaq, ↓qal, idsEs, idsE, idss, killB, effE, stA, wBlk, deads, nwA, cntA, cnts, cnt, valO, blkO, inj, injs, blk, blks, outA, outR, outE, outEs, sids, List.nodup_cons, List.nodup_nil, List.not_mem_nil, List.mem_cons, or_false, false_or, not_or, ↓evA, evB, evs, evp, mkB, repB, blen, ↓retQ, res, resAll, resOne, kill, apartOk, exp, injV, injB, pur, purs, purR, pursR, List.reduceReplicate, Nat.reduceAdd, Nat.reduceMul, Nat.reduceSub, Nat.reduceEqDiff, Nat.reduceLT, Int.reduceToNat, Int.reduceLE, Int.reduceLT, Int.reduceEq, reduceCtorEq, ↓reduceIte]
    repeat (refine And.intro (by omega) ?_)
    have sR : sub R 0 (9 + n + (p.length + 16)) = R := sub_zero hRl
    simp only [out, outs, out1, pur, hRl, sR, Nat.zero_add, out, outs, out1, pur, purs, qcz, qc0, List.not_mem_nil, not_false_eq_true, true_and, and_true, Nat.reduceLeDiff, Nat.le_refl]
  · have c3 : ¬ ((n + b.length : Nat) : Int) < 4 := by omega
    rw [if_neg h4] at hpe
    subst hpe
    simp only [ir20, rs20, gl, hF, c1, c2, c3, hag, hs3, ↓hpr3, q1, f1, wl, wp, q2, f2, hpf, hhl, wat, q3, f3, hNl, hky, hkyl, q4, f4, hSl, hQl, sH, sb, sS, sk, hkl, q5, f5, hRl, sub_zero, qdb, qai, List.length_cons, List.length_nil, Nat.reduceAdd, Nat.le_refl, Nat.reduceLeDiff, Nat.reduceLT, true_and, and_true, ↓qar, ↓qan, ↓qao, ↓qap, ↓qam, ↓qaj, ↓qak, ↓qaq, ↓qal, idsEs, idsE, idss, killB, effE, stA, wBlk, deads, nwA, cntA, cnts, cnt, valO, blkO, inj, injs, blk, blks, outA, outR, outE, outEs, sids, List.nodup_cons, List.nodup_nil, List.not_mem_nil, List.mem_cons, or_false, false_or, not_or, ↓evA, evB, evs, evp, mkB, repB, blen, ↓retQ, res, resAll, resOne, kill, apartOk, exp, injV, injB, pur, purs, purR, pursR, List.reduceReplicate, Nat.reduceAdd, Nat.reduceMul, Nat.reduceSub, Nat.reduceEqDiff, Nat.reduceLT, Int.reduceToNat, Int.reduceLE, Int.reduceLT, Int.reduceEq, reduceCtorEq, ↓reduceIte]
    repeat (refine And.intro (by omega) ?_)
    have sR : sub R 0 (9 + n + (p.length + 16)) = R := sub_zero hRl
    simp only [out, outs, out1, pur, hRl, sR, Nat.zero_add, out, outs, out1, pur, purs, qcz, qc0, List.not_mem_nil, not_false_eq_true, true_and, and_true, Nat.reduceLeDiff, Nat.le_refl]
end Am
set_option linter.unusedSimpArgs false
set_option linter.unusedVariables false
set_option maxRecDepth 20000
namespace Am
open Go.Proofs
/-! ### An opened packet -/
def shN (d : List Int) (a : Nat) : Nat → Nat
  | 0 => 0
  | i + 1 => shN d a i * 256 + (getI d (a + i)).toNat
theorem shN_lt {d : List Int} (hd : Dig 256 d) (a : Nat) : ∀ n, shN d a n < pw8 n
  | 0 => by simp [shN, pw8]
  | n + 1 => by
    have ih := shN_lt hd a n
    have hb : Bt (getI d (a + n)) := hd.all (by decide) _
    have h2 := hb.2
    have h1 := hb.1
    rw [shN, pw8]
    omega
theorem shN_step {d : List Int} (hd : Dig 256 d) {a n : Nat} (hn : n < 4) : bOr .u64 (iShl .u64 ((shN d a n : Nat) : Int) 8) (getI d (a + n)) = ((shN d a (n + 1) : Nat) : Int) := by
  have ih := shN_lt hd a n
  have hp : pw8 n ≤ 16777216 := by rcases (by omega : n = 0 ∨ n = 1 ∨ n = 2 ∨ n = 3) with rfl | rfl | rfl | rfl <;> decide
  obtain ⟨x, hx, hx2⟩ := (show Bt (getI d (a + n)) from hd.all (by decide) _).nat
  rw [shN, hx]
  obtain ⟨s, hs⟩ : ∃ s, shN d a n = s := ⟨_, rfl⟩
  rw [hs] at ih ⊢
  have e : iShl .u64 (s : Int) 8 = ((s * 256 : Nat) : Int) := by
    unfold iShl
    show Go.IntKind.u64.wrap ((s : Int) * 2 ^ (min 8 64)) = _
    rw [show min 8 64 = 8 from rfl, wrap_u64]
    simp only [Int.reducePow]
    omega
  rw [e, o64 (by omega) (by omega)]
  congr 1
  rw [Int.toNat_natCast, Nat.mul_comm s 256, show (256 : Nat) = 2 ^ 8 from rfl, Nat.two_pow_add_eq_or_of_lt (by simpa using hx2)]
def rst (d : List Int) : Int := bAnd .u8 (getI d 0) (if bAnd .u8 (getI d 0) 128 = 0 then 28 else 12)
/-- What stands in a packet: its bytes unhidden, how many its number has, the number, what it carries. -/
def opD (k b : List Int) (a e : Nat) : List Int := hidF k (sub b 0 e) a true
def opN (k b : List Int) (a e : Nat) : Nat := hcnt k (sub b 0 e) a true
def opP (k b : List Int) (a e x : Nat) : Nat := fullF (shN (opD k b a e) a (opN k b a e)) (opN k b a e) x
def opH (k b : List Int) (a e : Nat) : List Int := sub (opD k b a e) 0 (a + opN k b a e)
def opT (k b : List Int) (a e : Nat) : List Int := sub (opD k b a e) (a + opN k b a e) (e - (a + opN k b a e))
def preGO (ds : List D) : Prop := ∃ (k b : List Int) (a e x : Nat), ds = [.v (.ints .u8 k), .s .u8 b, .v (.int .i64 (a : Int)), .v (.int .i64 (e : Int)), .v (.int .u64 (x : Int))] ∧
  K44 k ∧ Dig 256 b ∧ 1 ≤ a ∧ a + 20 ≤ e ∧ e ≤ b.length ∧ b.length ≤ 1000000 ∧ x < 4611686018427387904 ∧
  opnB (sub k 0 16) (nonF k (opP k b a e x)) (opH k b a e) (opT k b a e) = true ∧ rst (opD k b a e) = 0
def F23 : List D → Out
  | [.v (.ints _ k), .s _ b, .v (.int _ a), .v (.int _ e), .v (.int _ x)] => .many [.v (.int .u64 (opP k b a.toNat e.toNat x.toNat : Nat)), .s .u8 (opnS (sub k 0 16) (nonF k (opP k b a.toNat e.toNat x.toNat)) (opH k b a.toNat e.toNat) (opT k b a.toNat e.toNat)), .v (.int .i64 0)]
  | _ => bad
def s23 : Summ := sData [.v, .s .u8, .v, .v, .v] preGO F23
theorem hidF_len (k b : List Int) (a : Nat) (h : Bool) : (hidF k b a h).length = b.length := by rw [hidF, hidS_len, hfst, List.length_set]
theorem hidF_dig {k b : List Int} (hb : Dig 256 b) (a : Nat) (h : Bool) : Dig 256 (hidF k b a h) := by
  unfold hidF
  exact itr_inv (fun _ (s : List Int) => Dig 256 s) (by unfold hfst; exact hb.set _ (x8_bd _ _).1 (x8_bd _ _).2) (fun n s hs => hs.set _ (x8_bd _ _).1 (x8_bd _ _).2) _
set_option maxHeartbeats 4000000 in
theorem ok23 {g : List Blk} [Ge gl g] : SumOK Tryd.prog g 23 s23 ∧ SumAbs s23 := by
  refine fsumA (l := [(45, s45), (51, s51), (44, s44), (52, s52)]) mixed gl_plain rfl Tryd.func23 comp23 compR23 nt23 (by simp only [List.mem_cons, List.not_mem_nil, or_false, forall_eq_or_imp, forall_eq]; exact ⟨ok45, ok51, ok44, ok52⟩) fun ds ⟨k, b, a, e, x, hd, hk, hb, ha, hae, heb, hbl, hx, ho, hr⟩ hA => ?_
  subst hd
  have hkl := hk.1
  have hF : F23 [.v (.ints .u8 k), .s .u8 b, .v (.int .i64 (a : Int)), .v (.int .i64 (e : Int)), .v (.int .u64 (x : Int))] = .many [.v (.int .u64 (opP k b a e x : Nat)), .s .u8 (opnS (sub k 0 16) (nonF k (opP k b a e x)) (opH k b a e) (opT k b a e)), .v (.int .i64 0)] := rfl
  have c1 : ¬ (a : Int) < 1 := by omega
  have c2 : ¬ (b.length : Int) < (e : Int) := by omega
  have c3 : ¬ (e : Int) < (a : Int) := by omega
  have we : Go.IntKind.i64.wrap ((e : Int) - (a : Int)) = ((e - a : Nat) : Int) := by rw [wrap_i64]; omega
  have c4 : ¬ ((e - a : Nat) : Int) < 20 := by omega
  have hcl : (sub b 0 e).length = e := by simp [sub]; omega
  have hcd : Dig 256 (sub b 0 e) := sub_dig' hb
  have q1 : preHid [.v (.ints .u8 k), .w .u8 (sub b 0 e), .v (.int .i64 (a : Int)), .v (.bool true)] := ⟨k, _, a, true, rfl, hk, hcd, ha, by omega, by omega⟩
  have f1 : F45 [.v (.ints .u8 k), .w .u8 (sub b 0 e), .v (.int .i64 (a : Int)), .v (.bool true)] = ([[.v (.ints .u8 (opD k b a e))]], .one (.v (.int .i64 (opN k b a e : Int)))) := rfl
  have hDl : (opD k b a e).length = e := by rw [opD, hidF_len, hcl]
  have hDd : Dig 256 (opD k b a e) := hidF_dig hcd a true
  have hn : opN k b a e ≤ 4 ∧ 1 ≤ opN k b a e := hnum_le _
  have hP : opP k b a e x = fullF (shN (opD k b a e) a (opN k b a e)) (opN k b a e) x := rfl
  have hHe : opH k b a e = sub (opD k b a e) 0 (a + opN k b a e) := rfl
  have hTe : opT k b a e = sub (opD k b a e) (a + opN k b a e) (e - (a + opN k b a e)) := rfl
  obtain ⟨c, hc⟩ : ∃ c, sub b 0 e = c := ⟨_, rfl⟩
  rw [hc] at hcl q1 f1
  obtain ⟨d, hde⟩ : ∃ d, opD k b a e = d := ⟨_, rfl⟩
  obtain ⟨n, hne⟩ : ∃ n, opN k b a e = n := ⟨_, rfl⟩
  rw [hde] at hDl hDd hr
  rw [hde, hne] at f1 hP hHe hTe
  rw [hne] at hn
  have hss := shN_lt hDd a n
  have hp8 : pw8 n ≤ 4294967296 := by rcases (by omega : n = 1 ∨ n = 2 ∨ n = 3 ∨ n = 4) with rfl | rfl | rfl | rfl <;> decide
  have q2 : preFull [.v (.int .u64 ((shN d a n : Nat) : Int)), .v (.int .i64 (n : Int)), .v (.int .u64 (x : Int))] := ⟨shN d a n, n, x, rfl, hn.2, hn.1, by omega, hx⟩
  have f2 : F51 [.v (.int .u64 ((shN d a n : Nat) : Int)), .v (.int .i64 (n : Int)), .v (.int .u64 (x : Int))] = .one (.v (.int .u64 (fullF (shN d a n) n x : Nat))) := rfl
  rw [← hP] at f2
  obtain ⟨P, hPe⟩ : ∃ P, opP k b a e x = P := ⟨_, rfl⟩
  rw [hPe] at f2 ho hF
  have q3 : preNon [.v (.ints .u8 k), .v (.int .u64 (P : Int))] := ⟨k, P, rfl, hk⟩
  have f3 : F44 [.v (.ints .u8 k), .v (.int .u64 (P : Int))] = .one (.v (.ints .u8 (nonF k P))) := rfl
  have hN : B12 (nonF k P) := nonS_ok hk 8
  obtain ⟨N, hNe⟩ : ∃ N, nonF k P = N := ⟨_, rfl⟩
  rw [hNe] at f3 hN ho hF
  have hK : B16 (sub k 0 16) := ⟨by simp [sub, hkl], sub_dig' hk.2⟩
  obtain ⟨ky, hky⟩ : ∃ ky, sub k 0 16 = ky := ⟨_, rfl⟩
  rw [hky] at hK ho hF
  have hHd : Dig 256 (sub d 0 (a + n)) := sub_dig' hDd
  have hTd : Dig 256 (sub d (a + n) (e - (a + n))) := sub_dig' hDd
  have hHl : (sub d 0 (a + n)).length = a + n := by simp [sub]; omega
  have hTl : (sub d (a + n) (e - (a + n))).length = e - (a + n) := by simp [sub]; omega
  obtain ⟨H, hH⟩ : ∃ H, opH k b a e = H := ⟨_, rfl⟩
  obtain ⟨T, hT⟩ : ∃ T, opT k b a e = T := ⟨_, rfl⟩
  rw [hH] at hHe ho hF
  rw [hT] at hTe ho hF
  have hHe' := hHe.symm
  have hTe' := hTe.symm
  rw [hHe'] at hHd hHl
  rw [hTe'] at hTd hTl
  have q4 : preSl [.v (.ints .u8 ky), .v (.ints .u8 N), .s .u8 H, .s .u8 T] := ⟨_, _, _, _, rfl, hK, hN, hHd, by omega, hTd, by omega⟩
  have f4 : F52 [.v (.ints .u8 ky), .v (.ints .u8 N), .s .u8 H, .s .u8 T] = .many [.s .u8 (opnS ky N H T), .v (.bool (opnB ky N H T))] := rfl
  rw [ho] at f4
  obtain ⟨C, hC⟩ : ∃ C, opnS ky N H T = C := ⟨_, rfl⟩
  rw [hC] at f4 hF
  have sk : sub k 0 44 = k := sub_zero hkl
  have hkyl := hK.1
  have hNl := hN.1
  have sC := qdd C
  have wan : Go.IntKind.i64.wrap ((a : Int) + (n : Int)) = ((a + n : Nat) : Int) := by rw [wrap_i64]; omega
  have han : a + n - a = n := by omega
  simp only [s45, s51, s44, s52]
  simp only [ir23, rs23, gl, hF, c1, c2, c3, c4, we, hc, hcl, q1, f1, sk, hkl, wan, han, hDl, sub_zero, qdb, qai, List.length_cons, List.length_nil, Nat.reduceAdd, Nat.le_refl, Nat.reduceLeDiff, Nat.reduceLT, true_and, and_true, ↓qar, ↓qan, ↓qao, ↓qap, ↓qam, ↓qaj, ↓qak, ↓qaq, ↓qal, idsEs, idsE, idss, killB, effE, stA, wBlk, deads, nwA, cntA, cnts, cnt, valO, blkO, inj, injs, blk, blks, outA, outR, outE, outEs, sids, List.nodup_cons, List.nodup_nil, List.not_mem_nil, List.mem_cons, or_false, false_or, not_or, ↓evA, evB, evs, evp, mkB, repB, blen, ↓retQ, res, resAll, resOne, kill, apartOk, exp, injV, injB, pur, purs, purR, pursR, List.reduceReplicate, Nat.reduceAdd, Nat.reduceMul, Nat.reduceSub, Nat.reduceEqDiff, Nat.reduceLT, Int.reduceToNat, Int.reduceLE, Int.reduceLT, Int.reduceEq, reduceCtorEq, ↓reduceIte]
  repeat (refine And.intro (by omega) ?_)
  refine awp_loopA (n := 104) hA [1, 2, 4, 5, 13, 14, 54, 55, 56] (by decide +kernel) (fun i : Nat => [.slice 7 0 1 e e, .int .i64 (a : Int), .int .u64 (x : Int), .ptr 5 0, .int .i64 (n : Int), .int .u64 ((shN d a i : Nat) : Int), .slice 7 a 1 n (e - a), .int .i64 (n : Int), .int .i64 (i : Int)])
    (fun i => [.ints true .u64 roots, .dead, .dead, .dead, .ints true .u8 b, .ints false .u8 k, .dead, .ints false .u8 d]) (fun i => i ≤ n) (fun i => n - i) 0 ?_ (by omega) ?_
  · refine Hd.same ?_
    simp only [shN, ↓evA, evB, evs, evp, mkB, repB, blen, ↓retQ, res, resAll, resOne, kill, apartOk, exp, injV, injB, pur, purs, purR, pursR, List.reduceReplicate, Nat.reduceAdd, Nat.reduceMul, Nat.reduceSub, Nat.reduceEqDiff, Nat.reduceLT, Int.reduceToNat, Int.reduceLE, Int.reduceLT, Int.reduceEq, reduceCtorEq, ↓reduceIte]
  intro i hi K hK'
  simp only [s45, s51, s44, s52]
  by_cases hlt : i < n
  · have d1 : (i : Int) < (n : Int) := by omega
    have wi : Go.IntKind.i64.wrap ((i : Int) + 1) = ((i + 1 : Nat) : Int) := by rw [wrap_i64]; omega
    have hst := shN_step hDd (a := a) (n := i) (by omega)
    have hbt := hDd.all (by decide) (a + i)
    have v1 := wrap64 hbt.1 hbt.2
    have e1 : a + i < e := by omega
    simp only [d1, wi, hDl, hlt, e1, v1, hst, sub_zero, qdb, qai, List.length_cons, List.length_nil, Nat.reduceAdd, Nat.le_refl, Nat.reduceLeDiff, Nat.reduceLT, true_and, and_true, ↓evA, evB, evs, evp, mkB, repB, blen, ↓retQ, res, resAll, resOne, kill, apartOk, exp, injV, injB, pur, purs, purR, pursR, List.reduceReplicate, Nat.reduceAdd, Nat.reduceMul, Nat.reduceSub, Nat.reduceEqDiff, Nat.reduceLT, Int.reduceToNat, Int.reduceLE, Int.reduceLT, Int.reduceEq, reduceCtorEq, ↓reduceIte]
    repeat (refine And.intro (by omega) ?_)
    refine ⟨i + 1, hK' _ (by omega) (by omega), Hd.same ?_⟩
    simp only [↓evA, evB, evs, evp, mkB, repB, blen, ↓retQ, res, resAll, resOne, kill, apartOk, exp, injV, injB, pur, purs, purR, pursR, List.reduceReplicate, Nat.reduceAdd, Nat.reduceMul, Nat.reduceSub, Nat.reduceEqDiff, Nat.reduceLT, Int.reduceToNat, Int.reduceLE, Int.reduceLT, Int.reduceEq, reduceCtorEq, ↓reduceIte]
  obtain rfl : i = n := by omega
  have d1 : ¬ (i : Int) < (i : Int) := by omega
  have e0 : 0 < e := by omega
  unfold rst at hr
  by_cases h128 : bAnd .u8 (getI d 0) 128 = 0
  · rw [if_pos h128] at hr
    simp only [d1, q2, f2, q3, f3, hNl, sk, hkl, hky, hkyl, wan, hHe', hTe', q4, f4, hDl, e0, h128, hr, hF, sub_zero, qdb, qai, List.length_cons, List.length_nil, Nat.reduceAdd, Nat.le_refl, Nat.reduceLeDiff, Nat.reduceLT, true_and, and_true, ↓evA, evB, evs, evp, mkB, repB, blen, ↓retQ, res, resAll, resOne, kill, apartOk, exp, injV, injB, pur, purs, purR, pursR, List.reduceReplicate, Nat.reduceAdd, Nat.reduceMul, Nat.reduceSub, Nat.reduceEqDiff, Nat.reduceLT, Int.reduceToNat, Int.reduceLE, Int.reduceLT, Int.reduceEq, reduceCtorEq, ↓reduceIte]
    repeat (refine And.intro (by omega) ?_)
    simp only [out, outs, out1, pur, sC, Nat.zero_add, out, outs, out1, pur, purs, qcz, qc0, List.not_mem_nil, not_false_eq_true, true_and, and_true, Nat.reduceLeDiff, Nat.le_refl]
  · rw [if_neg h128] at hr
    simp only [d1, q2, f2, q3, f3, hNl, sk, hkl, hky, hkyl, wan, hHe', hTe', q4, f4, hDl, e0, h128, hr, hF, sub_zero, qdb, qai, List.length_cons, List.length_nil, Nat.reduceAdd, Nat.le_refl, Nat.reduceLeDiff, Nat.reduceLT, true_and, and_true, ↓evA, evB, evs, evp, mkB, repB, blen, ↓retQ, res, resAll, resOne, kill, apartOk, exp, injV, injB, pur, purs, purR, pursR, List.reduceReplicate, Nat.reduceAdd, Nat.reduceMul, Nat.reduceSub, Nat.reduceEqDiff, Nat.reduceLT, Int.reduceToNat, Int.reduceLE, Int.reduceLT, Int.reduceEq, reduceCtorEq, ↓reduceIte]
    repeat (refine And.intro (by omega) ?_)
    simp only [out, outs, out1, pur, sC, Nat.zero_add, out, outs, out1, pur, purs, qcz, qc0, List.not_mem_nil, not_false_eq_true, true_and, and_true, Nat.reduceLeDiff, Nat.le_refl]
end Am
set_option linter.unusedSimpArgs false
set_option linter.unusedVariables false
set_option maxRecDepth 20000
namespace Am
open Go.Proofs
/-! ### What is hidden twice is what it was -/
theorem getI_sv {l : List Int} {i j : Nat} {v : Int} (h : i < l.length) : getI (l.set i v) j = if i = j then v else getI l j := by
  rw [getI_set _ _ _ _ h]
  by_cases e : i = j
  · rw [if_pos e, if_pos e.symm]
  · rw [if_neg e, if_neg (fun h => e h.symm)]
theorem hid_get {m s : List Int} {a : Nat} : ∀ n, a + n ≤ s.length → ∀ j, getI (itr (hidS m a) s n) j = if a ≤ j ∧ j < a + n then bXor .u8 (getI s j) (getI m (1 + (j - a))) else getI s j
  | 0, _, j => by rw [if_neg (by omega)]; rfl
  | n + 1, h, j => by
    have hl := hidS_len (m := m) (a := a) (b := s) n
    have e : itr (hidS m a) s (n + 1) = hidS m a (itr (hidS m a) s n) n := rfl
    have g1 : getI (itr (hidS m a) s n) (a + n) = getI s (a + n) := by rw [hid_get n (by omega) (a + n), if_neg (by omega)]
    rw [e, hidS, getI_sv (by rw [hl]; omega), g1, hid_get n (by omega) j]
    by_cases hj : a + n = j
    · rw [if_pos hj, if_pos (by omega), ← hj, Nat.add_sub_cancel_left]
    · rw [if_neg hj]
      by_cases h2 : a ≤ j ∧ j < a + n
      · rw [if_pos h2, if_pos (by omega)]
      · rw [if_neg h2, if_neg (by omega)]
theorem bits_top {x m t : Int} (hx : Bt x) (hm : Bt m) (ht : t = 31 ∨ t = 15) : bAnd .u8 (bXor .u8 x (bAnd .u8 m t)) 128 = bAnd .u8 x 128 := by
  obtain ⟨p, rfl, hp⟩ := hx.nat
  obtain ⟨q, rfl, hq⟩ := hm.nat
  have key : ∀ r : Nat, r < 256 → r &&& 128 = 0 → bAnd .u8 (bXor .u8 (p : Int) (bAnd .u8 (q : Int) (r : Int))) ((128 : Nat) : Int) = bAnd .u8 (p : Int) ((128 : Nat) : Int) := fun r hr h0 => by
    have h1 : q &&& r < 256 := Nat.and_lt_two_pow (n := 8) _ hr
    rw [an8 hq hr, xn hp h1, an8 (Nat.xor_lt_two_pow (n := 8) hp h1) (by decide), an8 hp (by decide), Nat.and_xor_distrib_right, Nat.and_assoc, h0, Nat.and_zero, Nat.xor_zero]
  rcases ht with rfl | rfl
  · exact key 31 (by decide) (by decide)
  · exact key 15 (by decide) (by decide)
theorem hbits_or (x : Int) : hbits x = 31 ∨ hbits x = 15 := by unfold hbits; split; exact .inl rfl; exact .inr rfl
theorem getI_sb {l : List Int} {o n j : Nat} (h : j < n) : getI (sub l o n) j = getI l (o + j) := by
  simp [getI, sub, List.getD_eq_getElem?_getD, List.getElem?_take_of_lt h, List.getElem?_drop]
theorem hid_inv {k Q : List Int} {a : Nat} (hk : K44 k) (hQ : Dig 256 Q) (ha : 1 ≤ a) (hl : a + 20 ≤ Q.length) :
    hidF k (hidF k Q a false) a true = Q ∧ hcnt k (hidF k Q a false) a true = hcnt k Q a false := by
  have hn := hnum_le (getI Q 0)
  have hc : hcnt k Q a false = hnum (getI Q 0) := rfl
  have hf : hfst k Q a = Q.set 0 (bXor .u8 (getI Q 0) (bAnd .u8 (getI (hmask k Q a) 0) (hbits (getI Q 0)))) := rfl
  have hm : B16 (hmask k Q a) := enc_ok ⟨by simp [sub, hk.1], sub_dig' hk.2⟩ ⟨by simp [sub]; omega, sub_dig' hQ⟩
  have hR : hidF k Q a false = itr (hidS (hmask k Q a) a) (hfst k Q a) (hnum (getI Q 0)) := rfl
  have hRl := hidF_len k Q a false
  obtain ⟨n, hne⟩ : ∃ n, hnum (getI Q 0) = n := ⟨_, rfl⟩
  rw [hne] at hn hc hR
  obtain ⟨Q1, hQ1⟩ : ∃ Q1, hfst k Q a = Q1 := ⟨_, rfl⟩
  rw [hQ1] at hf hR
  have hQl : Q1.length = Q.length := by rw [hf, List.length_set]
  have hg : ∀ j, getI (hidF k Q a false) j = if a ≤ j ∧ j < a + n then bXor .u8 (getI Q1 j) (getI (hmask k Q a) (1 + (j - a))) else getI Q1 j := fun j => by
    rw [hR]; exact hid_get n (by omega) j
  have hq : ∀ j, getI Q1 j = if 0 = j then bXor .u8 (getI Q 0) (bAnd .u8 (getI (hmask k Q a) 0) (hbits (getI Q 0))) else getI Q j := fun j => by
    rw [hf, getI_sv (by omega)]
  have hs : sub (hidF k Q a false) (a + 4) 16 = sub Q (a + 4) 16 := by
    refine getI_ext (by simp [sub, hRl]) fun j hj => ?_
    have hj16 : j < 16 := by simp [sub, hRl] at hj; omega
    rw [getI_sb hj16, getI_sb hj16, hg, if_neg (by omega), hq, if_neg (by omega)]
  have hmm : hmask k (hidF k Q a false) a = hmask k Q a := by unfold hmask; rw [hs]
  obtain ⟨R, hRe⟩ : ∃ R, hidF k Q a false = R := ⟨_, rfl⟩
  rw [hRe] at hRl hg hmm
  simp only [hRe]
  obtain ⟨m, hme⟩ : ∃ m, hmask k Q a = m := ⟨_, rfl⟩
  rw [hme] at hm hmm
  simp only [hme] at hg hq
  have m0 : Bt (getI m 0) := hm.2.all (by decide) 0
  have q0 : Bt (getI Q 0) := hQ.all (by decide) 0
  have r0 : getI R 0 = bXor .u8 (getI Q 0) (bAnd .u8 (getI m 0) (hbits (getI Q 0))) := by rw [hg, if_neg (by omega), hq, if_pos rfl]
  have hbb : hbits (getI R 0) = hbits (getI Q 0) := by
    have e : bAnd .u8 (getI R 0) 128 = bAnd .u8 (getI Q 0) 128 := by rw [r0, bits_top q0 m0 (hbits_or _)]
    unfold hbits
    rw [e]
  have f0 : Bt (bAnd .u8 (getI m 0) (hbits (getI Q 0))) := by unfold bAnd; exact w8_bd _
  have hf2 : hfst k R a = R.set 0 (getI Q 0) := by
    unfold hfst
    rw [hmm, hbb, r0, xx_self q0 f0]
  have hc2 : hcnt k R a true = n := by
    show hnum (getI (hfst k R a) 0) = n
    rw [hf2, getI_sv (by omega), if_pos rfl, hne]
  refine ⟨?_, by rw [hc2, hc]⟩
  unfold hidF
  rw [hc2, hmm, hf2]
  refine getI_ext (by rw [hidS_len, List.length_set, hRl]) fun j hj => ?_
  have hjQ : Bt (getI Q j) := hQ.all (by decide) j
  rw [hid_get n (by rw [List.length_set]; omega), getI_sv (by omega)]
  by_cases h1 : a ≤ j ∧ j < a + n
  · rw [if_pos h1, if_neg (by omega), hg, if_pos h1, hq, if_neg (by omega), xx_self hjQ (hm.2.all (by decide) _)]
  · rw [if_neg h1]
    by_cases h2 : 0 = j
    · rw [if_pos h2, ← h2]
    · rw [if_neg h2, hg, if_neg h1, hq, if_neg h2]
/-! ### A packet's number comes back -/
theorem full_back {pn x n : Nat} (hx : x ≤ pn) (hpn : pn < 4611686018427387904) (hn1 : 1 ≤ n) (hn4 : n ≤ 4) (hd : 2 * (pn - x) + 1 < pw8 n) : fullF (pn % pw8 n) n x = pn := by
  have hW : (∃ h, pw8 n = 2 * h) ∧ 256 ≤ pw8 n ∧ 4611686018427387904 % pw8 n = 0 := by
    rcases (by omega : n = 1 ∨ n = 2 ∨ n = 3 ∨ n = 4) with rfl | rfl | rfl | rfl
    · exact ⟨⟨128, rfl⟩, by decide, by decide⟩
    · exact ⟨⟨32768, rfl⟩, by decide, by decide⟩
    · exact ⟨⟨8388608, rfl⟩, by decide, by decide⟩
    · exact ⟨⟨2147483648, rfl⟩, by decide, by decide⟩
  obtain ⟨⟨h, hh⟩, hW1, hW2⟩ := hW
  unfold fullF
  obtain ⟨W, hWe⟩ : ∃ W, pw8 n = W := ⟨_, rfl⟩
  simp only [hWe]
  rw [hWe] at hd hh hW1 hW2
  have e1 : pn % W % W = pn % W := Nat.mod_mod _ _
  have p1 := Nat.div_add_mod pn W
  have x1 := Nat.div_add_mod x W
  have pm : pn % W < W := Nat.mod_lt _ (by omega)
  have xm : x % W < W := Nat.mod_lt _ (by omega)
  rw [e1]
  have hq : pn / W = x / W ∨ pn / W = x / W + 1 := by
    have h1 : x / W ≤ pn / W := Nat.div_le_div_right hx
    have h2 : pn / W ≤ (x + W) / W := Nat.div_le_div_right (by omega)
    rw [Nat.add_div_right _ (by omega)] at h2
    omega
  obtain ⟨u, hu⟩ : ∃ u, x / W = u := ⟨_, rfl⟩
  rw [hu] at hq x1 ⊢
  rw [Nat.mul_comm W u] at x1
  rcases hq with hq | hq
  · rw [hq, Nat.mul_comm W u] at p1
    rw [if_neg (by omega), if_neg (by omega)]
    omega
  · have e2 : W * (pn / W) = u * W + W := by rw [hq, Nat.mul_comm, Nat.add_mul, Nat.one_mul]
    rw [e2] at p1
    have hb : u * W + pn % W < 4611686018427387904 - W := by omega
    rw [if_pos ⟨by omega, hb⟩]
    omega
theorem nmb_get (pn : Nat) (n : Nat) (hn : n ≤ 4) (hpn : pn < 4611686018427387904) : ∀ j, j ≤ n → ∀ i, i < j → getI (nmb (pn : Int) n j) i = ((pn / 2 ^ (8 * (n - 1 - i)) % 256 : Nat) : Int)
  | 0, _, i, hi => by omega
  | j + 1, hj, i, hi => by
    have hl := nmb_len (pn : Int) n j
    rw [nmb]
    by_cases h : i < j
    · rw [getI_app (by omega), nmb_get pn n hn hpn j (by omega) i h]
    · obtain rfl : i = j := by omega
      have e : getI (nmb (pn : Int) n i ++ [Go.IntKind.u8.wrap (iShr .u64 (pn : Int) ((8 * (n - 1 - i) : Nat) : Int))]) i = Go.IntKind.u8.wrap (iShr .u64 (pn : Int) ((8 * (n - 1 - i) : Nat) : Int)) := by
        simp only [getI, List.getD_eq_getElem?_getD]
        rw [List.getElem?_append_right (by omega), hl, Nat.sub_self]
        rfl
      rw [e]
      unfold iShr
      rw [Int.toNat_natCast, show Go.IntKind.u64.bits = 64 from rfl, Nat.min_eq_left (by omega), fdiv_nat, wrap_u8]
      omega
theorem sh_back {pn n : Nat} {Q : List Int} {a : Nat} (hn4 : n ≤ 4) (h : ∀ i, i < n → getI Q (a + i) = ((pn / 2 ^ (8 * (n - 1 - i)) % 256 : Nat) : Int)) : ∀ i, i ≤ n → shN Q a i = pn / 2 ^ (8 * (n - i)) % pw8 i
  | 0, _ => by simp [shN, pw8, Nat.mod_one]
  | i + 1, hi => by
    rw [shN, sh_back hn4 h i (by omega), h i (by omega), Int.toNat_natCast, pw8]
    have e : 8 * (n - i) = 8 * (n - 1 - i) + 8 := by omega
    have e2 : n - (i + 1) = n - 1 - i := by omega
    rw [e2, e, Nat.pow_add, ← Nat.div_div_eq_div_mul]
    obtain ⟨y, hy⟩ : ∃ y, pn / 2 ^ (8 * (n - 1 - i)) = y := ⟨_, rfl⟩
    rw [hy, show (2 : Nat) ^ 8 = 256 from rfl, Nat.mod_mul]
    omega
end Am
