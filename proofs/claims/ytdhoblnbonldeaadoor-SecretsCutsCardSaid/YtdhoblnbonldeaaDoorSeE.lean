/-
Working texts: contracts of functions, and the numbers behind them.
-/
import Derived.Test.YtdhoblnbonldeaaDoorSeDs
set_option linter.unusedSimpArgs false
set_option linter.unusedVariables false
set_option linter.unusedSectionVars false
set_option linter.unusedSimpArgs false
set_option linter.unusedVariables false
set_option maxRecDepth 20000
namespace Am
open Go.Proofs
/-! ### Messages more -/
theorem rdEs_ints {hp hk : List Blk} {k : Go.IntKind} : ∀ {n : Nat} {xs : List Int} {J : List E → Prop}, xs.length = n → rdEs hp hk (List.replicate n .v) (xs.map (V.int k)) J = J (xs.map fun x => .v (.int k x))
  | 0, [], J, _ => by simp [rdEs]
  | n + 1, x :: xs, J, h => by
    rw [List.replicate_succ, List.map_cons, rdEs]
    simp only [rdE, purR, true_and]
    rw [rdEs_ints (by simpa using h)]
    rfl
theorem idsEs_v {hp : List Blk} : ∀ {n : Nat} {l : List V}, idsEs hp (List.replicate n .v) l = []
  | 0, l => rfl
  | n + 1, [] => rfl
  | n + 1, a :: l => by rw [List.replicate_succ, idsEs, idsE, idsEs_v]; rfl
theorem gcVs_ints {keep : List Nat} {k : Go.IntKind} : ∀ {xs : List Int}, gcVs keep (xs.map (V.int k)) = xs.map (V.int k)
  | [] => rfl
  | x :: xs => by rw [List.map_cons, gcVs, gcV, gcVs_ints (xs := xs)]
theorem out_obj {hp : List Blk} {Y now : List Int} {used : List Nat} {K : List Nat → Prop} {j cap : Nat} (hY : nthB hp j = .ints false .u8 Y) (h4 : 4 ≤ j) (hu : j ∉ used) (h : K (j :: used)) :
    outEs hp (.s 1 Y.length .u8 Y :: now.map (fun x => .v (.int .u8 x))) (.slice j 0 1 Y.length cap :: now.map (V.int .u8)) used K := by
  rw [outEs, outE]
  simp only [hY]
  exact ⟨⟨trivial, trivial, trivial, h4, hu, by omega, by rw [Nat.mul_one]; exact qdc Y⟩, outEs_ints h⟩
theorem parts_pur : ∀ {cs : List V}, (∀ u ∈ cs, Part u) → pursR cs = true
  | [], _ => rfl
  | c :: cs, h => by
    rw [pursR, parts_pur fun u hu => h u (by simp [hu])]
    rcases h c (by simp) with rfl | ⟨xs, rfl, -⟩ <;> rfl
def shN : List Sp := List.replicate 32 .v
theorem idsEs_N {hp : List Blk} {l : List V} : idsEs hp shN l = [] := idsEs_v
theorem rdEs_N {hp hk : List Blk} {xs : List Int} {J : List E → Prop} (h : xs.length = 32) : rdEs hp hk shN (xs.map (V.int .u8)) J = J (xs.map fun x => .v (.int .u8 x)) := rdEs_ints h
def shS1 : List Sp := .g 1 .u8 :: shN
def preAdL (ds : List E) : Prop := ∃ (b now : List Int) (cs : List V), ds = [.p (fsS b now), .v (.rcs 1 cs.length cs)] ∧ Dig 256 b ∧ Sec now ∧ (∀ u ∈ cs, Part u) ∧ cs.length ≤ 1000000 ∧ (b ++ flat cs).length ≤ 549755813888
def FAdL : List E → List (List E) × EOut
  | [.p (.s _ _ _ b :: now), .v (.rcs _ _ cs)] => ([.s 1 (b ++ flat cs).length .u8 (b ++ flat cs) :: now], .many [])
  | _ => ([], .many [])
def sAdL : Summ := sEff [.p shS1, .r] preAdL FAdL
set_option maxHeartbeats 1000000 in
theorem okAdL {g : List Blk} [Ge gl g] : SumOK Tryd.prog g 58 sAdL ∧ SumAbs sAdL := by
  refine esumA (l := []) mixed gl_plain rfl Tryd.func58 comp58 compR58 nt58 (by simp) fun ds ⟨b, now, cs, hd, hb, hn, hp, hcl, hl⟩ hA => ?_
  subst hd
  have hnl := hn.1
  have hF : FAdL [.p (fsS b now), .v (.rcs 1 cs.length cs)] = ([fsS (b ++ flat cs) now], .many []) := rfl
  have sb := qdc b
  simp only [ir58, rs58, gl, hF, fsS, sb, injs_ints, blks_ints, cnts_ints, sub_zero, qda, qai, List.length_cons, List.length_nil, Nat.reduceAdd, Nat.le_refl, Nat.reduceLeDiff, Nat.reduceLT, true_and, and_true, ↓qaq, ↓qan, ↓qao, ↓qap, ↓qam, ↓qaj, ↓qak, ↓qal, idsEs, idsE, idss, killB, effE, stA, deads, nwA, cntA, cnts, cnt, valO, blkO, inj, injs, blk, blks, outA, outR, outE, outEs, sids, List.nodup_cons, List.nodup_nil, List.not_mem_nil, List.mem_cons, or_false, false_or, not_or, ↓evA, evB, evs, evp, mkB, repB, blen, ↓retQ, res, resAll, resOne, kill, apartOk, exp, injV, injB, pur, purs, purR, pursR, List.reduceReplicate, Nat.reduceAdd, Nat.reduceMul, Nat.reduceSub, Nat.reduceEqDiff, Nat.reduceLT, Int.reduceToNat, Int.reduceLE, Int.reduceLT, Int.reduceEq, reduceCtorEq, ↓reduceIte]
  rw [List.length_append] at hl
  repeat (refine And.intro (by omega) ?_)
  refine awp_loopA (n := 27) hA [0, 4, 13, 14, 15] (by decide +kernel) (fun i : Nat => [.ptr 4 0, .slice 7 0 1 (b ++ flat (cs.take i)).length (b ++ flat (cs.take i)).length, .rcs 1 cs.length cs, .int .i64 cs.length, .int .i64 i])
    (fun i => [.ints true .u64 roots, .dead, .dead, .dead, .cells false (.slice 5 0 1 b.length b.length :: now.map (V.int .u8)), .ints false .u8 b, .dead, .ints false .u8 (b ++ flat (cs.take i))]) (fun i => i ≤ cs.length) (fun i => cs.length - i) 0 ?_ (by omega) ?_
  · refine Hd.same ?_
    simp only [List.take_zero, flat_nil, List.append_nil, ↓evA, evB, evs, evp, mkB, repB, blen, ↓retQ, res, resAll, resOne, kill, apartOk, exp, injV, injB, pur, purs, purR, pursR, List.reduceReplicate, Nat.reduceAdd, Nat.reduceMul, Nat.reduceSub, Nat.reduceEqDiff, Nat.reduceLT, Int.reduceToNat, Int.reduceLE, Int.reduceLT, Int.reduceEq, reduceCtorEq, ↓reduceIte]
  intro i hi K hK
  by_cases hlt : i < cs.length
  · have c1 : (i : Int) < (cs.length : Int) := by omega
    have wi : Go.IntKind.i64.wrap ((i : Int) + 1) = ((i + 1 : Nat) : Int) := by rw [wrap_i64]; omega
    obtain ⟨hmem, htk⟩ := nth_mem hlt
    have hpi := hp _ hmem
    have hle := flat_take_le cs (i + 1)
    have hnx : b ++ flat (cs.take (i + 1)) = (b ++ flat (cs.take i)) ++ flat [nth cs i] := by
      rw [htk, List.append_assoc]
      congr 1
      rcases hpi with h | ⟨xs, h, -⟩
      · rw [h, flat_snoc_nil]; simp [flat]
      · rw [h, flat_snoc_rsl]; simp [flat]
    obtain ⟨x, hx⟩ : ∃ x, nth cs i = x := ⟨_, rfl⟩
    rw [hx] at hpi hnx
    have hbl : (b ++ flat (cs.take i)).length ≤ 549755813888 ∧ (b ++ flat (cs.take (i + 1))).length ≤ 549755813888 := by
      have := flat_take_le cs i
      rw [List.length_append, List.length_append]; omega
    obtain ⟨Y, hY⟩ : ∃ Y, b ++ flat (cs.take i) = Y := ⟨_, rfl⟩
    rw [hY] at hnx hbl ⊢
    rw [hnx] at hbl
    have hcs : cs.length ≤ cs.length := Nat.le_refl _
    rcases hpi with rfl | ⟨xs, rfl, hxd⟩
    · have hf : flat [V.nils] = [] := rfl
      rw [hf, List.append_nil] at hnx
      have hlen : b.length + (flat (cs.take (i + 1))).length = Y.length := by rw [← List.length_append, hnx]
      simp only [c1, wi, hx, hlt, sub_zero, qda, qai, List.length_cons, List.length_nil, Nat.reduceAdd, Nat.le_refl, Nat.reduceLeDiff, Nat.reduceLT, true_and, and_true, ↓evA, evB, evs, evp, mkB, repB, blen, ↓retQ, res, resAll, resOne, kill, apartOk, exp, injV, injB, pur, purs, purR, pursR, List.reduceReplicate, Nat.reduceAdd, Nat.reduceMul, Nat.reduceSub, Nat.reduceEqDiff, Nat.reduceLT, Int.reduceToNat, Int.reduceLE, Int.reduceLT, Int.reduceEq, reduceCtorEq, ↓reduceIte]
      repeat (refine And.intro (by omega) ?_)
      refine ⟨i + 1, hK _ (by omega) (by omega), Hd.of [0, 1, 2, 3, 4, 5, 6, 8] (by decide) (by decide) (by simp) ?_⟩
      simp only [hnx, hlen, gcVs_ints, gc, gcVs, gcV, posOf, gcH, gcB, Option.map_some, Option.map_none, List.replicate_zero, List.drop_zero, ↓evA, evB, evs, evp, mkB, repB, blen, ↓retQ, res, resAll, resOne, kill, apartOk, exp, injV, injB, pur, purs, purR, pursR, List.reduceReplicate, Nat.reduceAdd, Nat.reduceMul, Nat.reduceSub, Nat.reduceEqDiff, Nat.reduceLT, Int.reduceToNat, Int.reduceLE, Int.reduceLT, Int.reduceEq, reduceCtorEq, ↓reduceIte]
    · have hf : flat [V.rsl 1 xs.length .u8 xs] = xs := by simp [flat]
      rw [hf] at hnx hbl
      rw [List.length_append] at hbl
      have hlen : b.length + (flat (cs.take (i + 1))).length = Y.length + xs.length := by rw [← List.length_append, hnx, List.length_append]
      simp only [c1, wi, hx, hlt, sub_zero, qda, qai, List.length_cons, List.length_nil, Nat.reduceAdd, Nat.le_refl, Nat.reduceLeDiff, Nat.reduceLT, true_and, and_true, ↓evA, evB, evs, evp, mkB, repB, blen, ↓retQ, res, resAll, resOne, kill, apartOk, exp, injV, injB, pur, purs, purR, pursR, List.reduceReplicate, Nat.reduceAdd, Nat.reduceMul, Nat.reduceSub, Nat.reduceEqDiff, Nat.reduceLT, Int.reduceToNat, Int.reduceLE, Int.reduceLT, Int.reduceEq, reduceCtorEq, ↓reduceIte]
      repeat (refine And.intro (by omega) ?_)
      refine ⟨i + 1, hK _ (by omega) (by omega), Hd.of [0, 1, 2, 3, 4, 5, 6, 8] (by decide) (by decide) (by simp) ?_⟩
      simp only [hnx, hlen, gcVs_ints, gc, gcVs, gcV, posOf, gcH, gcB, Option.map_some, Option.map_none, List.replicate_zero, List.drop_zero, ↓evA, evB, evs, evp, mkB, repB, blen, ↓retQ, res, resAll, resOne, kill, apartOk, exp, injV, injB, pur, purs, purR, pursR, List.reduceReplicate, Nat.reduceAdd, Nat.reduceMul, Nat.reduceSub, Nat.reduceEqDiff, Nat.reduceLT, Int.reduceToNat, Int.reduceLE, Int.reduceLT, Int.reduceEq, reduceCtorEq, ↓reduceIte]
  obtain rfl : i = cs.length := by omega
  have c1 : ¬ (cs.length : Int) < (cs.length : Int) := by omega
  rw [List.take_length]
  obtain ⟨Y, hY⟩ : ∃ Y, b ++ flat cs = Y := ⟨_, rfl⟩
  rw [hY] at hF ⊢
  simp only [fsS] at hF
  simp only [c1, hF, sub_zero, qda, qai, List.length_cons, List.length_nil, Nat.reduceAdd, Nat.le_refl, Nat.reduceLeDiff, Nat.reduceLT, true_and, and_true, ↓qaq, ↓qan, ↓qao, ↓qap, ↓qam, ↓qaj, ↓qak, ↓qal, idsEs, idsE, idss, killB, effE, stA, deads, nwA, cntA, cnts, cnt, valO, blkO, inj, injs, blk, blks, outA, outR, outE, outEs, sids, List.nodup_cons, List.nodup_nil, List.not_mem_nil, List.mem_cons, or_false, false_or, not_or, ↓evA, evB, evs, evp, mkB, repB, blen, ↓retQ, res, resAll, resOne, kill, apartOk, exp, injV, injB, pur, purs, purR, pursR, List.reduceReplicate, Nat.reduceAdd, Nat.reduceMul, Nat.reduceSub, Nat.reduceEqDiff, Nat.reduceLT, Int.reduceToNat, Int.reduceLE, Int.reduceLT, Int.reduceEq, reduceCtorEq, ↓reduceIte]
  refine ⟨by omega, ?_⟩
  exact outEs_ints trivial
def preAdd (ds : List E) : Prop := preAdL ds
def sAdd : Summ := sEff [.p shS1, .r] preAdL FAdL
set_option maxHeartbeats 1000000 in
theorem okAdd {g : List Blk} [Ge gl g] : SumOK Tryd.prog g 34 sAdd ∧ SumAbs sAdd := by
  refine esumA (l := [(58, sAdL)]) mixed gl_plain rfl Tryd.func34 comp34 compR34 nt34 (by simp only [List.mem_cons, List.not_mem_nil, or_false, forall_eq]; exact okAdL) fun ds ⟨b, now, cs, hd, hb, hn, hp, hcl, hl⟩ hA => ?_
  subst hd
  have hnl := hn.1
  have q : preAdL [.p (fsS b now), .v (.rcs 1 cs.length cs)] := ⟨_, _, _, rfl, hb, hn, hp, hcl, hl⟩
  have hF : FAdL [.p (fsS b now), .v (.rcs 1 cs.length cs)] = ([fsS (b ++ flat cs) now], .many []) := rfl
  have sb := qdc b
  have hpr : pursR cs = true := parts_pur hp
  have hr : ∀ (hp hk : List Blk) (J : List E → Prop), rdEs hp hk shN (now.map (V.int .u8)) J = J (now.map fun x => .v (.int .u8 x)) := fun hp hk J => rdEs_N hnl
  obtain ⟨Y, hY⟩ : ∃ Y, b ++ flat cs = Y := ⟨_, rfl⟩
  rw [hY] at hF
  simp only [fsS] at q hF
  simp only [sAdL, shS1]
  simp only [ir34, rs34, gl, q, hF, fsS, sb, injs_ints, blks_ints, cnts_ints, idsEs_N, ↓hr, hpr, sub_zero, qda, qai, List.length_cons, List.length_nil, Nat.reduceAdd, Nat.le_refl, Nat.reduceLeDiff, Nat.reduceLT, true_and, and_true, ↓qaq, ↓qan, ↓qao, ↓qap, ↓qam, ↓qaj, ↓qak, ↓qal, idsEs, idsE, idss, killB, effE, stA, deads, nwA, cntA, cnts, cnt, valO, blkO, inj, injs, blk, blks, outA, outR, outE, outEs, sids, List.nodup_cons, List.nodup_nil, List.not_mem_nil, List.mem_cons, or_false, false_or, not_or, ↓evA, evB, evs, evp, mkB, repB, blen, ↓retQ, res, resAll, resOne, kill, apartOk, exp, injV, injB, pur, purs, purR, pursR, List.reduceReplicate, Nat.reduceAdd, Nat.reduceMul, Nat.reduceSub, Nat.reduceEqDiff, Nat.reduceLT, Int.reduceToNat, Int.reduceLE, Int.reduceLT, Int.reduceEq, reduceCtorEq, ↓reduceIte]
  exact outEs_ints trivial
/-! ### The next secret -/
def ldrv : List Int := [100, 101, 114, 105, 118, 101, 100]
def nextS (now m : List Int) : List Int := hmac (labkey now ldrv (sumS [])) m
def preNx (ds : List E) : Prop := ∃ (b now : List Int) (v : V), ds = [.p (fsS b now), .v v] ∧ Dig 256 b ∧ b.length ≤ 549755813888 ∧ Sec now ∧ Part v ∧ (flat [v]).length ≤ 549755813888
def nowE : List E → List Int := fun es => es.map fun | .v (.int _ n) => n | _ => 0
theorem nowE_ints (xs : List Int) : nowE (xs.map fun x => .v (.int .u8 x)) = xs := by simp [nowE, Function.comp_def]
def FNx : List E → List (List E) × EOut
  | [.p (.s _ _ _ b :: now), .v v] => ([fsS b (nextS (nowE now) (flat [v]))], .many [])
  | _ => ([], .many [])
def sNx : Summ := sEff [.p shS1, .r] preNx FNx
theorem obj_rsl {b now : List Int} (hb : Dig 256 b) (hbl : b.length ≤ 549755813888) (hn : Sec now) : Obj (.rpc (csS (.rsl 1 b.length .u8 b) now) 0) b now :=
  ⟨_, rfl, part_rsl hb, by simp [flat], hbl, hn⟩
set_option maxHeartbeats 1000000 in
theorem okNx {g : List Blk} [Ge gl g] : SumOK Tryd.prog g 30 sNx ∧ SumAbs sNx := by
  refine esumA (l := [(56, sSum0), (55, s55), (39, sEx2)]) mixed gl_plain rfl Tryd.func30 comp30 compR30 nt30 (by simp only [List.mem_cons, List.not_mem_nil, or_false, forall_eq_or_imp, forall_eq]; exact ⟨okSum0, ok55, okEx2⟩) fun ds ⟨b, now, v, hd, hb, hbl, hn, hv, hvl⟩ hA => ?_
  subst hd
  have hnl := hn.1
  have sb := qdc b
  have hF : FNx [.p (fsS b now), .v v] = ([fsS b (nextS now (flat [v]))], .many []) := by
    show ([fsS b (nextS (nowE (now.map fun x => .v (.int .u8 x))) (flat [v]))], EOut.many []) = _
    rw [nowE_ints]
  have hr : ∀ (hp hk : List Blk) (J : List E → Prop), rdEs hp hk shN (now.map (V.int .u8)) J = J (now.map fun x => .v (.int .u8 x)) := fun hp hk J => rdEs_N hnl
  have hob := obj_rsl hb hbl hn
  have hg := getO_obj hob
  have hS := sumS_sec []
  have q0 : preNil0 [.v .nils] := rfl
  have f0 : FSum0 [.v .nils] = .one (.v (.ints .u8 (sumS []))) := rfl
  have qd : preDer [.v (.rpc (csS (.rsl 1 b.length .u8 b) now) 0), .v (.str ldrv), .v (.ints .u8 (sumS []))] := ⟨_, b, now, _, _, rfl, hob, lit_dig rfl, hS⟩
  have fd : F55 [.v (.rpc (csS (.rsl 1 b.length .u8 b) now) 0), .v (.str ldrv), .v (.ints .u8 (sumS []))] = .one (.v (.ints .u8 (labkey now ldrv (sumS [])))) := by
    show Out.one (.v (.ints .u8 (labkey (getO (.rpc (csS (.rsl 1 b.length .u8 b) now) 0)).2 ldrv (sumS [])))) = _
    rw [hg]
  have hK := labkey_sec now ldrv (sumS [])
  have hfs : nextS now (flat [v]) = hmac (labkey now ldrv (sumS [])) (flat [v]) := rfl
  rw [hfs] at hF
  obtain ⟨s, hs⟩ : ∃ s, sumS [] = s := ⟨_, rfl⟩
  rw [hs] at hS qd fd hK hF f0
  obtain ⟨k, hk⟩ : ∃ k, labkey now ldrv s = k := ⟨_, rfl⟩
  rw [hk] at fd hK hF
  have qx : preEx2 [.s .u8 k, .v v] := ⟨_, _, rfl, hK.2, by rw [hK.1]; decide, hv, hvl⟩
  have fx : FEx2 [.s .u8 k, .v v] = .one (.v (.ints .u8 (hmac k (flat [v])))) := rfl
  have hH := hmac_len k (flat [v])
  obtain ⟨h, hh⟩ : ∃ h, hmac k (flat [v]) = h := ⟨_, rfl⟩
  rw [hh] at fx hF hH
  have kl := hK.1
  have sl := hS.1
  have sk : sub k 0 32 = k := sub_zero kl
  have ss : sub s 0 32 = s := sub_zero sl
  have pk : spl [0, 0, 0, 0, 0, 0, 0, 0, 0, 0, 0, 0, 0, 0, 0, 0, 0, 0, 0, 0, 0, 0, 0, 0, 0, 0, 0, 0, 0, 0, 0, 0] 0 k = k := qda (by simp [kl])
  have fin' : spl (V.slice 5 0 1 b.length b.length :: now.map (V.int .u8)) 1 (h.map (V.int .u8)) = V.slice 5 0 1 b.length b.length :: h.map (V.int .u8) := by simp [spl, hH, hnl]
  simp only [fsS] at hF
  simp only [csS, ldrv] at qd fd
  simp only [sEx2, sSum0, shS1, s55]
  rcases hv with rfl | ⟨xs, rfl, hxd⟩
  all_goals
    simp only [ir30, rs30, gl, hF, fsS, sb, injs_ints, blks_ints, cnts_ints, idsEs_N, ↓hr, ↓frzs_ints, q0, f0, qd, fd, qx, fx, hH, kl, sl, sk, ss, pk, fin', hs, List.length_map, sub_zero, qda, qai, List.length_cons, List.length_nil, Nat.reduceAdd, Nat.le_refl, Nat.reduceLeDiff, Nat.reduceLT, true_and, and_true, ↓qaq, ↓qan, ↓qao, ↓qap, ↓qam, ↓qaj, ↓qak, ↓qal, idsEs, idsE, idss, killB, effE, stA, deads, nwA, cntA, cnts, cnt, valO, blkO, inj, injs, blk, blks, outA, outR, outE, outEs, sids, List.nodup_cons, List.nodup_nil, List.not_mem_nil, List.mem_cons, or_false, false_or, not_or, ↓evA, evB, evs, evp, mkB, repB, blen, ↓retQ, res, resAll, resOne, kill, apartOk, exp, injV, injB, pur, purs, purR, pursR, List.reduceReplicate, Nat.reduceAdd, Nat.reduceMul, Nat.reduceSub, Nat.reduceEqDiff, Nat.reduceLT, Int.reduceToNat, Int.reduceLE, Int.reduceLT, Int.reduceEq, reduceCtorEq, ↓reduceIte]
    exact ⟨by omega, by omega, outEs_ints trivial⟩
/-! ### Another key beforehand -/
def preAg (ds : List E) : Prop := ∃ (b now : List Int) (v : V), ds = [.p (fsS b now), .v v] ∧ Dig 256 b ∧ b.length ≤ 549755813888 ∧ Sec now ∧ Part v ∧ (flat [v]).length ≤ 549755813888
def FAg : List E → List (List E) × EOut
  | [.p (.s _ _ _ b :: now), .v v] => ([.x :: now], .one (.p (fsS b (hmac zz (pskOf (flat [v]))))))
  | _ => ([], .many [])
def sAg : Summ := sEff [.p shS1, .r] preAg FAg
set_option maxHeartbeats 1000000 in
theorem okAg {g : List Blk} [Ge gl g] : SumOK Tryd.prog g 33 sAg ∧ SumAbs sAg := by
  refine esumA (l := [(28, sNew2)]) mixed gl_plain rfl Tryd.func33 comp33 compR33 nt33 (by simp only [List.mem_cons, List.not_mem_nil, or_false, forall_eq]; exact okNew2) fun ds ⟨b, now, v, hd, hb, hbl, hn, hv, hvl⟩ hA => ?_
  subst hd
  have hnl := hn.1
  have sb := qdc b
  have hF : FAg [.p (fsS b now), .v v] = ([.x :: now.map (fun x => .v (.int .u8 x))], .one (.p (fsS b (hmac zz (pskOf (flat [v])))))) := rfl
  have qn : preNew2 [.v v] := ⟨v, rfl, hv, hvl⟩
  have fn : F28 [.v v] = ([], .one (.p (fsS [] (hmac zz (pskOf (flat [v])))))) := rfl
  have hH := hmac_len zz (pskOf (flat [v]))
  obtain ⟨h, hh⟩ : ∃ h, hmac zz (pskOf (flat [v])) = h := ⟨_, rfl⟩
  rw [hh] at hF fn hH
  have fin' : spl (V.slice 7 0 1 0 0 :: h.map (V.int .u8)) 0 [V.slice 5 0 1 b.length b.length] = V.slice 5 0 1 b.length b.length :: h.map (V.int .u8) := by simp [spl]
  have s1 : sub (V.slice 5 0 1 b.length b.length :: now.map (V.int .u8)) 0 1 = [V.slice 5 0 1 b.length b.length] := by simp [sub]
  have ha : agI [V.slice 5 0 1 b.length b.length] = .agg [V.slice 5 0 1 b.length b.length] := rfl
  simp only [fsS] at hF fn
  simp only [sNew2, shS1]
  rcases hv with rfl | ⟨xs, rfl, hxd⟩
  all_goals
    simp only [ir33, rs33, gl, hF, fsS, sb, injs_ints, blks_ints, cnts_ints, qn, fn, hH, fin', s1, ha, List.length_map, sub_zero, qda, qai, List.length_cons, List.length_nil, Nat.reduceAdd, Nat.le_refl, Nat.reduceLeDiff, Nat.reduceLT, true_and, and_true, ↓qaq, ↓qan, ↓qao, ↓qap, ↓qam, ↓qaj, ↓qak, ↓qal, idsEs, idsE, idss, killB, effE, stA, deads, nwA, cntA, cnts, cnt, valO, blkO, inj, injs, blk, blks, outA, outR, outE, outEs, sids, List.nodup_cons, List.nodup_nil, List.not_mem_nil, List.mem_cons, or_false, false_or, not_or, ↓evA, evB, evs, evp, mkB, repB, blen, ↓retQ, res, resAll, resOne, kill, apartOk, exp, injV, injB, pur, purs, purR, pursR, List.reduceReplicate, Nat.reduceAdd, Nat.reduceMul, Nat.reduceSub, Nat.reduceEqDiff, Nat.reduceLT, Int.reduceToNat, Int.reduceLE, Int.reduceLT, Int.reduceEq, reduceCtorEq, ↓reduceIte]
    exact outEs_ints ⟨by decide, by decide, outEs_ints trivial⟩
end Am
set_option linter.unusedSimpArgs false
set_option linter.unusedVariables false
set_option maxRecDepth 20000
namespace Am
open Go.Proofs
/-! ### What is asked of a schedule -/
def sSmN : Summ := sData [.r, .r] preLog0 F59
theorem csS_pur {v : V} {b now : List Int} (h : Obj v b now) : purR v = true := by
  obtain ⟨c, rfl, hc, -⟩ := h
  have : ∀ xs : List Int, pursR (xs.map (V.int .u8)) = true := fun xs => by
    induction xs with
    | nil => rfl
    | cons x xs ih => simpa [pursR, purR] using ih
  rcases hc with rfl | ⟨xs, rfl, -⟩ <;> simp [purR, pursR, csS, this]
theorem okSmN {g : List Blk} [Ge gl g] : SumOK Tryd.prog g 36 sSmN ∧ SumAbs sSmN := by
  refine fsumA (l := [(59, s59)]) mixed gl_plain rfl Tryd.func36 comp36 compR36 nt36 (by simp only [List.mem_cons, List.not_mem_nil, or_false, forall_eq]; exact ok59) fun ds ⟨v, b, now, hd, ho⟩ hA => ?_
  subst hd
  have hg := getO_obj ho
  have hp := csS_pur ho
  have q : preLog0 [.v v, .v .nils] := ⟨v, b, now, rfl, ho⟩
  have hF : F59 [.v v, .v .nils] = .one (.v (.ints .u8 (sumS b))) := by
    show Out.one (.v (.ints .u8 (sumS (getO v).1))) = _
    rw [hg]
  have sl : (sumS b).length = 32 := sum256_len _
  obtain ⟨S, hS⟩ : ∃ S, sumS b = S := ⟨_, rfl⟩
  rw [hS] at hF sl
  have ps : spl [0, 0, 0, 0, 0, 0, 0, 0, 0, 0, 0, 0, 0, 0, 0, 0, 0, 0, 0, 0, 0, 0, 0, 0, 0, 0, 0, 0, 0, 0, 0, 0] 0 S = S := qda (by simp [sl])
  have ss : sub S 0 32 = S := sub_zero sl
  obtain ⟨c, rfl, -⟩ := ho
  obtain ⟨cs, hcs⟩ : ∃ cs, csS c now = cs := ⟨_, rfl⟩
  rw [hcs] at q hF hp
  simp only [purR] at hp
  simp only [hcs, s59]
  simp only [ir36, rs36, gl, hF, q, hp, sl, ps, ss, sub_zero, qda, qai, List.length_cons, List.length_nil, Nat.reduceAdd, Nat.le_refl, Nat.reduceLeDiff, Nat.reduceLT, true_and, and_true, ↓evA, evB, evs, evp, mkB, repB, blen, ↓retQ, res, resAll, resOne, kill, apartOk, exp, injV, injB, pur, purs, purR, pursR, List.reduceReplicate, Nat.reduceAdd, Nat.reduceMul, Nat.reduceSub, Nat.reduceEqDiff, Nat.reduceLT, Int.reduceToNat, Int.reduceLE, Int.reduceLT, Int.reduceEq, reduceCtorEq, ↓reduceIte]
  repeat (refine And.intro (by omega) ?_)
  simp only [out, outs, out1, pur, and_self]
def sSm1 : Summ := sData [.r, .r] preLog1 FLog1
theorem okSm1 {g : List Blk} [Ge gl g] : SumOK Tryd.prog g 36 sSm1 ∧ SumAbs sSm1 := by
  refine fsumA (l := [(59, sLog1)]) mixed gl_plain rfl Tryd.func36 comp36 compR36 nt36 (by simp only [List.mem_cons, List.not_mem_nil, or_false, forall_eq]; exact okLog1) fun ds ⟨v, p, b, now, hd, ho, hpp, hpl⟩ hA => ?_
  subst hd
  have hg := getO_obj ho
  have hp := csS_pur ho
  have q : preLog1 [.v v, .v (.rcs 1 1 [p])] := ⟨v, p, b, now, rfl, ho, hpp, hpl⟩
  have hF : FLog1 [.v v, .v (.rcs 1 1 [p])] = .one (.v (.ints .u8 (sumS (b ++ flat [p])))) := by
    show Out.one (.v (.ints .u8 (sumS ((getO v).1 ++ flat [p])))) = _
    rw [hg]
  have sl : (sumS (b ++ flat [p])).length = 32 := sum256_len _
  have hpr : pursR [p] = true := parts_pur (parts_cons hpp parts_nil)
  obtain ⟨S, hS⟩ : ∃ S, sumS (b ++ flat [p]) = S := ⟨_, rfl⟩
  rw [hS] at hF sl
  have ps : spl [0, 0, 0, 0, 0, 0, 0, 0, 0, 0, 0, 0, 0, 0, 0, 0, 0, 0, 0, 0, 0, 0, 0, 0, 0, 0, 0, 0, 0, 0, 0, 0] 0 S = S := qda (by simp [sl])
  have ss : sub S 0 32 = S := sub_zero sl
  obtain ⟨c, rfl, -⟩ := ho
  obtain ⟨cs, hcs⟩ : ∃ cs, csS c now = cs := ⟨_, rfl⟩
  rw [hcs] at q hF hp
  simp only [purR] at hp
  obtain ⟨ps', hps⟩ : ∃ l, [p] = l := ⟨_, rfl⟩
  rw [hps] at q hF hpr ⊢
  simp only [hcs, sLog1]
  simp only [ir36, rs36, gl, hF, q, hp, hpr, sl, ps, ss, sub_zero, qda, qai, List.length_cons, List.length_nil, Nat.reduceAdd, Nat.le_refl, Nat.reduceLeDiff, Nat.reduceLT, true_and, and_true, ↓evA, evB, evs, evp, mkB, repB, blen, ↓retQ, res, resAll, resOne, kill, apartOk, exp, injV, injB, pur, purs, purR, pursR, List.reduceReplicate, Nat.reduceAdd, Nat.reduceMul, Nat.reduceSub, Nat.reduceEqDiff, Nat.reduceLT, Int.reduceToNat, Int.reduceLE, Int.reduceLT, Int.reduceEq, reduceCtorEq, ↓reduceIte]
  repeat (refine And.intro (by omega) ?_)
  simp only [out, outs, out1, pur, and_self]
theorem sData_or {P : Go.Program} {g : List Blk} {f : Go.FuncId} {shs : List Sh} {p1 p2 : List D → Prop} {F1 F2 G : List D → Out} (e1 : ∀ ds, p1 ds → F1 ds = G ds) (e2 : ∀ ds, p2 ds → F2 ds = G ds)
    (h1 : SumOK P g f (sData shs p1 F1)) (h2 : SumOK P g f (sData shs p2 F2)) : SumOK P g f (sData shs (fun ds => p1 ds ∨ p2 ds) G) := by
  intro Own σ hp w vs cvs K hs hG hvs h hfr
  obtain ⟨ds, ⟨hp12, hk⟩, hd⟩ := rds_det h
  rcases hp12 with hp1 | hp2
  · exact h1 Own σ hp w vs cvs K hs hG hvs (hd _ ⟨hp1, by rw [e1 ds hp1]; exact hk⟩) hfr
  · exact h2 Own σ hp w vs cvs K hs hG hvs (hd _ ⟨hp2, by rw [e2 ds hp2]; exact hk⟩) hfr
def preS01 (ds : List D) : Prop := preNil0 ds ∨ preParts ds
def FS01 : List D → Out
  | [.v .nils] => FSum0 []
  | [.v (.rcs _ _ vs)] => .one (.v (.ints .u8 (sum256 (padded (flat vs) 64))))
  | _ => bad
def sSum01 : Summ := sData [.r] preS01 FS01
theorem okSum01 {g : List Blk} [Ge gl g] : SumOK Tryd.prog g 56 sSum01 ∧ SumAbs sSum01 :=
  ⟨sData_or (fun ds h => by rw [show ds = _ from h]; rfl) (fun ds h => by obtain ⟨vs, rfl, -⟩ := h; rfl) okSum0.1 ok56.1, sData_abs _ _ _⟩
def lbnd : List Int := [101, 120, 116, 32, 98, 105, 110, 100, 101, 114]
def bindS (now m : List Int) : List Int := finS (labkey now lbnd (sumS [])) (sumS m)
def preBnd (ds : List D) : Prop := ∃ (v p : V) (b now : List Int), ds = [.v v, .v p] ∧ Obj v b now ∧ Part p ∧ (flat [p]).length ≤ 549755813888
def FBnd : List D → Out
  | [.v v, .v p] => .one (.v (.ints .u8 (bindS (getO v).2 (flat [p]))))
  | _ => bad
def sBnd : Summ := sData [.r, .r] preBnd FBnd
set_option maxHeartbeats 1000000 in
theorem okBnd {g : List Blk} [Ge gl g] : SumOK Tryd.prog g 37 sBnd ∧ SumAbs sBnd := by
  refine fsumA (l := [(56, sSum01), (55, s55), (26, s26)]) mixed gl_plain rfl Tryd.func37 comp37 compR37 nt37 (by simp only [List.mem_cons, List.not_mem_nil, or_false, forall_eq_or_imp, forall_eq]; exact ⟨okSum01, ok55, ok26⟩) fun ds ⟨v, p, b, now, hd, ho, hpp, hpl⟩ hA => ?_
  subst hd
  have hg := getO_obj ho
  have hp := csS_pur ho
  have hpr : pursR [p] = true := parts_pur (parts_cons hpp parts_nil)
  have q0 : preS01 [.v .nils] := .inl rfl
  have f0 : FS01 [.v .nils] = .one (.v (.ints .u8 (sumS []))) := rfl
  have q1 : preS01 [.v (.rcs 1 1 [p])] := .inr ⟨[p], rfl, parts_cons hpp parts_nil, by omega, by simp⟩
  have f1 : FS01 [.v (.rcs 1 1 [p])] = .one (.v (.ints .u8 (sumS (flat [p])))) := rfl
  have hS := sumS_sec []
  have hM := sumS_sec (flat [p])
  have hF : FBnd [.v v, .v p] = .one (.v (.ints .u8 (finS (labkey now lbnd (sumS [])) (sumS (flat [p]))))) := by
    show Out.one (.v (.ints .u8 (bindS (getO v).2 (flat [p])))) = _
    rw [hg]; rfl
  have qd : preDer [.v v, .v (.str lbnd), .v (.ints .u8 (sumS []))] := ⟨_, b, now, _, _, rfl, ho, lit_dig rfl, hS⟩
  have fd : F55 [.v v, .v (.str lbnd), .v (.ints .u8 (sumS []))] = .one (.v (.ints .u8 (labkey now lbnd (sumS [])))) := by
    show Out.one (.v (.ints .u8 (labkey (getO v).2 lbnd (sumS [])))) = _
    rw [hg]
  have hK := labkey_sec now lbnd (sumS [])
  obtain ⟨s, hs⟩ : ∃ s, sumS [] = s := ⟨_, rfl⟩
  rw [hs] at hS f0 qd fd hK hF
  obtain ⟨m, hm⟩ : ∃ m, sumS (flat [p]) = m := ⟨_, rfl⟩
  rw [hm] at hM f1 hF
  obtain ⟨k, hk⟩ : ∃ k, labkey now lbnd s = k := ⟨_, rfl⟩
  rw [hk] at fd hK hF
  have qf : preSS [.v (.ints .u8 k), .v (.ints .u8 m)] := ⟨_, _, rfl, hK, hM⟩
  have ff : F26 [.v (.ints .u8 k), .v (.ints .u8 m)] = .one (.v (.ints .u8 (finS k m))) := rfl
  have rl : (finS k m).length = 32 := hmac_len _ _
  obtain ⟨R, hR⟩ : ∃ R, finS k m = R := ⟨_, rfl⟩
  rw [hR] at ff hF rl
  have pR : spl [0, 0, 0, 0, 0, 0, 0, 0, 0, 0, 0, 0, 0, 0, 0, 0, 0, 0, 0, 0, 0, 0, 0, 0, 0, 0, 0, 0, 0, 0, 0, 0] 0 R = R := qda (by simp [rl])
  have sR : sub R 0 32 = R := sub_zero rl
  have kl := hK.1
  have sl := hS.1
  have ml := hM.1
  have sk : sub k 0 32 = k := sub_zero kl
  have ss : sub s 0 32 = s := sub_zero sl
  have sm : sub m 0 32 = m := sub_zero ml
  obtain ⟨c, rfl, -⟩ := ho
  obtain ⟨cs, hcs⟩ : ∃ cs, csS c now = cs := ⟨_, rfl⟩
  rw [hcs] at qd fd hF hp
  simp only [purR] at hp
  simp only [lbnd] at qd fd
  simp only [hcs, sSum01, s55, s26]
  rcases hpp with rfl | ⟨xs, rfl, hxd⟩
  all_goals
    simp only [ir37, rs37, gl, hF, hp, hpr, q0, f0, q1, f1, qd, fd, qf, ff, rl, pR, sR, kl, sl, ml, sk, ss, sm, sub_zero, qda, qai, List.length_cons, List.length_nil, Nat.reduceAdd, Nat.le_refl, Nat.reduceLeDiff, Nat.reduceLT, true_and, and_true, ↓evA, evB, evs, evp, mkB, repB, blen, ↓retQ, res, resAll, resOne, kill, apartOk, exp, injV, injB, pur, purs, purR, pursR, List.reduceReplicate, Nat.reduceAdd, Nat.reduceMul, Nat.reduceSub, Nat.reduceEqDiff, Nat.reduceLT, Int.reduceToNat, Int.reduceLE, Int.reduceLT, Int.reduceEq, reduceCtorEq, ↓reduceIte]
    repeat (refine And.intro (by omega) ?_)
    simp only [out, outs, out1, pur, and_self]
/-! ### None -/
def preN1 (ds : List D) : Prop := ∃ v : V, ds = [.v .nilp, .v v] ∧ ∀ u, v = u → Part u ∨ ∃ w, u = .rcs 1 1 [w] ∧ Part w
def FN0 (_ : List D) : Out := .many []
def FNz (_ : List D) : Out := .one (.v (.ints .u8 zz))
def FNzz (_ : List D) : Out := .many [.v (.ints .u8 zz), .v (.ints .u8 zz)]
def sNAdd : Summ := sData [.v, .r] preN1 FN0
def sNNx : Summ := sData [.v, .r] preN1 FN0
def sNSm : Summ := sData [.v, .r] preN1 FNz
def sNBn : Summ := sData [.v, .r] preN1 FNz
def preNT (ds : List D) : Prop := ∃ l : List Int, ds = [.v .nilp, .v (.str l)]
def sNTr : Summ := sData [.r, .v] preNT FNzz
theorem okNAdd {g : List Blk} [Ge gl g] : SumOK Tryd.prog g 34 sNAdd ∧ SumAbs sNAdd := by
  refine fsumA (l := []) mixed gl_plain rfl Tryd.func34 comp34 compR34 nt34 (by simp) fun ds ⟨v, hd, hv⟩ hA => ?_
  subst hd
  simp only [ir34, rs34, gl, FN0, sub_zero, qda, qai, List.length_cons, List.length_nil, Nat.reduceAdd, Nat.le_refl, Nat.reduceLeDiff, Nat.reduceLT, true_and, and_true, ↓evA, evB, evs, evp, mkB, repB, blen, ↓retQ, res, resAll, resOne, kill, apartOk, exp, injV, injB, pur, purs, purR, pursR, List.reduceReplicate, Nat.reduceAdd, Nat.reduceMul, Nat.reduceSub, Nat.reduceEqDiff, Nat.reduceLT, Int.reduceToNat, Int.reduceLE, Int.reduceLT, Int.reduceEq, reduceCtorEq, ↓reduceIte]
  simp only [out, outs]
theorem okNNx {g : List Blk} [Ge gl g] : SumOK Tryd.prog g 30 sNNx ∧ SumAbs sNNx := by
  refine fsumA (l := []) mixed gl_plain rfl Tryd.func30 comp30 compR30 nt30 (by simp) fun ds ⟨v, hd, hv⟩ hA => ?_
  subst hd
  simp only [ir30, rs30, gl, FN0, sub_zero, qda, qai, List.length_cons, List.length_nil, Nat.reduceAdd, Nat.le_refl, Nat.reduceLeDiff, Nat.reduceLT, true_and, and_true, ↓evA, evB, evs, evp, mkB, repB, blen, ↓retQ, res, resAll, resOne, kill, apartOk, exp, injV, injB, pur, purs, purR, pursR, List.reduceReplicate, Nat.reduceAdd, Nat.reduceMul, Nat.reduceSub, Nat.reduceEqDiff, Nat.reduceLT, Int.reduceToNat, Int.reduceLE, Int.reduceLT, Int.reduceEq, reduceCtorEq, ↓reduceIte]
  simp only [out, outs]
theorem okNSm {g : List Blk} [Ge gl g] : SumOK Tryd.prog g 36 sNSm ∧ SumAbs sNSm := by
  refine fsumA (l := []) mixed gl_plain rfl Tryd.func36 comp36 compR36 nt36 (by simp) fun ds ⟨v, hd, hv⟩ hA => ?_
  subst hd
  have sz : sub [0, 0, 0, 0, 0, 0, 0, 0, 0, 0, 0, 0, 0, 0, 0, 0, 0, 0, 0, 0, 0, 0, 0, 0, 0, 0, 0, 0, 0, 0, 0, 0] 0 32 = [0, 0, 0, 0, 0, 0, 0, 0, 0, 0, 0, 0, 0, 0, 0, 0, 0, 0, 0, 0, 0, 0, 0, 0, 0, 0, 0, 0, 0, 0, 0, 0] := rfl
  have pz : spl [0, 0, 0, 0, 0, 0, 0, 0, 0, 0, 0, 0, 0, 0, 0, 0, 0, 0, 0, 0, 0, 0, 0, 0, 0, 0, 0, 0, 0, 0, 0, 0] 0 [0, 0, 0, 0, 0, 0, 0, 0, 0, 0, 0, 0, 0, 0, 0, 0, 0, 0, 0, 0, 0, 0, 0, 0, 0, 0, 0, 0, 0, 0, 0, 0] = [0, 0, 0, 0, 0, 0, 0, 0, 0, 0, 0, 0, 0, 0, 0, 0, 0, 0, 0, 0, 0, 0, 0, 0, 0, 0, 0, 0, 0, 0, 0, 0] := rfl
  simp only [ir36, rs36, gl, FNz, zz, sz, pz, sub_zero, qda, qai, List.length_cons, List.length_nil, Nat.reduceAdd, Nat.le_refl, Nat.reduceLeDiff, Nat.reduceLT, true_and, and_true, ↓evA, evB, evs, evp, mkB, repB, blen, ↓retQ, res, resAll, resOne, kill, apartOk, exp, injV, injB, pur, purs, purR, pursR, List.reduceReplicate, Nat.reduceAdd, Nat.reduceMul, Nat.reduceSub, Nat.reduceEqDiff, Nat.reduceLT, Int.reduceToNat, Int.reduceLE, Int.reduceLT, Int.reduceEq, reduceCtorEq, ↓reduceIte]
  repeat (refine And.intro (by omega) ?_)
  simp only [out, outs, out1, pur, and_self]
theorem okNBn {g : List Blk} [Ge gl g] : SumOK Tryd.prog g 37 sNBn ∧ SumAbs sNBn := by
  refine fsumA (l := []) mixed gl_plain rfl Tryd.func37 comp37 compR37 nt37 (by simp) fun ds ⟨v, hd, hv⟩ hA => ?_
  subst hd
  have sz : sub [0, 0, 0, 0, 0, 0, 0, 0, 0, 0, 0, 0, 0, 0, 0, 0, 0, 0, 0, 0, 0, 0, 0, 0, 0, 0, 0, 0, 0, 0, 0, 0] 0 32 = [0, 0, 0, 0, 0, 0, 0, 0, 0, 0, 0, 0, 0, 0, 0, 0, 0, 0, 0, 0, 0, 0, 0, 0, 0, 0, 0, 0, 0, 0, 0, 0] := rfl
  have pz : spl [0, 0, 0, 0, 0, 0, 0, 0, 0, 0, 0, 0, 0, 0, 0, 0, 0, 0, 0, 0, 0, 0, 0, 0, 0, 0, 0, 0, 0, 0, 0, 0] 0 [0, 0, 0, 0, 0, 0, 0, 0, 0, 0, 0, 0, 0, 0, 0, 0, 0, 0, 0, 0, 0, 0, 0, 0, 0, 0, 0, 0, 0, 0, 0, 0] = [0, 0, 0, 0, 0, 0, 0, 0, 0, 0, 0, 0, 0, 0, 0, 0, 0, 0, 0, 0, 0, 0, 0, 0, 0, 0, 0, 0, 0, 0, 0, 0] := rfl
  simp only [ir37, rs37, gl, FNz, zz, sz, pz, sub_zero, qda, qai, List.length_cons, List.length_nil, Nat.reduceAdd, Nat.le_refl, Nat.reduceLeDiff, Nat.reduceLT, true_and, and_true, ↓evA, evB, evs, evp, mkB, repB, blen, ↓retQ, res, resAll, resOne, kill, apartOk, exp, injV, injB, pur, purs, purR, pursR, List.reduceReplicate, Nat.reduceAdd, Nat.reduceMul, Nat.reduceSub, Nat.reduceEqDiff, Nat.reduceLT, Int.reduceToNat, Int.reduceLE, Int.reduceLT, Int.reduceEq, reduceCtorEq, ↓reduceIte]
  repeat (refine And.intro (by omega) ?_)
  simp only [out, outs, out1, pur, and_self]
theorem okNTr {g : List Blk} [Ge gl g] : SumOK Tryd.prog g 35 sNTr ∧ SumAbs sNTr := by
  refine fsumA (l := []) mixed gl_plain rfl Tryd.func35 comp35 compR35 nt35 (by simp) fun ds ⟨l, hd⟩ hA => ?_
  subst hd
  have sz : sub [0, 0, 0, 0, 0, 0, 0, 0, 0, 0, 0, 0, 0, 0, 0, 0, 0, 0, 0, 0, 0, 0, 0, 0, 0, 0, 0, 0, 0, 0, 0, 0] 0 32 = [0, 0, 0, 0, 0, 0, 0, 0, 0, 0, 0, 0, 0, 0, 0, 0, 0, 0, 0, 0, 0, 0, 0, 0, 0, 0, 0, 0, 0, 0, 0, 0] := rfl
  have pz : spl [0, 0, 0, 0, 0, 0, 0, 0, 0, 0, 0, 0, 0, 0, 0, 0, 0, 0, 0, 0, 0, 0, 0, 0, 0, 0, 0, 0, 0, 0, 0, 0] 0 [0, 0, 0, 0, 0, 0, 0, 0, 0, 0, 0, 0, 0, 0, 0, 0, 0, 0, 0, 0, 0, 0, 0, 0, 0, 0, 0, 0, 0, 0, 0, 0] = [0, 0, 0, 0, 0, 0, 0, 0, 0, 0, 0, 0, 0, 0, 0, 0, 0, 0, 0, 0, 0, 0, 0, 0, 0, 0, 0, 0, 0, 0, 0, 0] := rfl
  simp only [ir35, rs35, gl, FNzz, zz, sz, pz, sub_zero, qda, qai, List.length_cons, List.length_nil, Nat.reduceAdd, Nat.le_refl, Nat.reduceLeDiff, Nat.reduceLT, true_and, and_true, ↓evA, evB, evs, evp, mkB, repB, blen, ↓retQ, res, resAll, resOne, kill, apartOk, exp, injV, injB, pur, purs, purR, pursR, List.reduceReplicate, Nat.reduceAdd, Nat.reduceMul, Nat.reduceSub, Nat.reduceEqDiff, Nat.reduceLT, Int.reduceToNat, Int.reduceLE, Int.reduceLT, Int.reduceEq, reduceCtorEq, ↓reduceIte]
  repeat (refine And.intro (by omega) ?_)
  simp only [out, outs, out1, pur, and_self]
def preNAg (ds : List E) : Prop := ∃ v : V, ds = [.v .nilp, .v v] ∧ Part v ∧ (flat [v]).length ≤ 549755813888
def FNAg : List E → List (List E) × EOut
  | [_, .v v] => ([], .one (.p (fsS [] (hmac zz (pskOf (flat [v]))))))
  | _ => ([], .many [])
def sNAg : Summ := sEff [.v, .r] preNAg FNAg
set_option maxHeartbeats 1000000 in
theorem okNAg {g : List Blk} [Ge gl g] : SumOK Tryd.prog g 33 sNAg ∧ SumAbs sNAg := by
  refine esumA (l := [(28, sNew2)]) mixed gl_plain rfl Tryd.func33 comp33 compR33 nt33 (by simp only [List.mem_cons, List.not_mem_nil, or_false, forall_eq]; exact okNew2) fun ds ⟨v, hd, hv, hvl⟩ hA => ?_
  subst hd
  have hF : FNAg [.v .nilp, .v v] = ([], .one (.p (fsS [] (hmac zz (pskOf (flat [v])))))) := rfl
  have qn : preNew2 [.v v] := ⟨v, rfl, hv, hvl⟩
  have fn : F28 [.v v] = ([], .one (.p (fsS [] (hmac zz (pskOf (flat [v])))))) := rfl
  have hH := hmac_len zz (pskOf (flat [v]))
  obtain ⟨h, hh⟩ : ∃ h, hmac zz (pskOf (flat [v])) = h := ⟨_, rfl⟩
  rw [hh] at hF fn hH
  simp only [fsS] at hF fn
  simp only [sNew2]
  rcases hv with rfl | ⟨xs, rfl, hxd⟩
  all_goals
    simp only [ir33, rs33, gl, hF, injs_ints, blks_ints, cnts_ints, qn, fn, hH, List.length_map, sub_zero, qda, qai, List.length_cons, List.length_nil, Nat.reduceAdd, Nat.le_refl, Nat.reduceLeDiff, Nat.reduceLT, true_and, and_true, ↓qaq, ↓qan, ↓qao, ↓qap, ↓qam, ↓qaj, ↓qak, ↓qal, idsEs, idsE, idss, killB, effE, stA, deads, nwA, cntA, cnts, cnt, valO, blkO, inj, injs, blk, blks, outA, outR, outE, outEs, sids, List.nodup_cons, List.nodup_nil, List.not_mem_nil, List.mem_cons, or_false, false_or, not_or, ↓evA, evB, evs, evp, mkB, repB, blen, ↓retQ, res, resAll, resOne, kill, apartOk, exp, injV, injB, pur, purs, purR, pursR, List.reduceReplicate, Nat.reduceAdd, Nat.reduceMul, Nat.reduceSub, Nat.reduceEqDiff, Nat.reduceLT, Int.reduceToNat, Int.reduceLE, Int.reduceLT, Int.reduceEq, reduceCtorEq, ↓reduceIte]
    exact outEs_ints trivial
end Am
set_option linter.unusedSimpArgs false
set_option linter.unusedVariables false
set_option maxRecDepth 20000
namespace Am
open Go.Proofs
/-! ### SecretsNil -/
def preTr01 (ds : List D) : Prop := preNT ds ∨ preTrf ds
def FTr01 : List D → Out
  | [.v .nilp, _] => FNzz []
  | ds => F35 ds
def sTr01 : Summ := sData [.r, .v] preTr01 FTr01
theorem okTr01 {g : List Blk} [Ge gl g] : SumOK Tryd.prog g 35 sTr01 ∧ SumAbs sTr01 :=
  ⟨sData_or (fun ds h => by obtain ⟨l, rfl⟩ := h; rfl) (fun ds h => by
    obtain ⟨v, b, now, l, rfl, ho, -⟩ := h
    obtain ⟨c, rfl, -⟩ := ho
    rfl) okNTr.1 ok35.1, sData_abs _ _ _⟩
def preSm01 (ds : List D) : Prop := preLog0 ds ∨ preLog1 ds
def FSm01 : List D → Out
  | [v, .v .nils] => F59 [v, .v .nils]
  | ds => FLog1 ds
def sSm01 : Summ := sData [.r, .r] preSm01 FSm01
theorem okSm01 {g : List Blk} [Ge gl g] : SumOK Tryd.prog g 36 sSm01 ∧ SumAbs sSm01 :=
  ⟨sData_or (fun ds h => by obtain ⟨v, b, now, rfl, -⟩ := h; rfl) (fun ds h => by obtain ⟨v, p, b, now, rfl, -⟩ := h; rfl) okSmN.1 okSm1.1, sData_abs _ _ _⟩
def preNil (ds : List D) : Prop := ∃ p b l : List Int, ds = [.s .u8 p, .s .u8 b, .v (.str l)] ∧ Dig 256 p ∧ Dig 256 b ∧ Dig 256 l
set_option maxHeartbeats 4000000 in
theorem lawSecretsNil : ∀ ds, preNil ds → Does Tryd.prog gl1 11 (injV ds 4) (gl1 ++ injB true ds) (out (4 + (injB true ds).length) (FTrue15 ds)) := by
  refine fdoesA (l := [(25, s25), (34, sNAdd), (30, sNNx), (35, sTr01), (33, sNAg), (28, sNew2), (36, sNSm), (37, sNBn)]) mixed gl1_plain rfl Tryd.func11 comp11 compR11 nt11 (by simp only [List.mem_cons, List.not_mem_nil, or_false, forall_eq_or_imp, forall_eq]; exact ⟨ok25, okNAdd, okNNx, okTr01, okNAg, okNew2, okNSm, okNBn⟩) fun ds ⟨p, b, l, hd, hp, hb, hl⟩ hA => ?_
  subst hd
  have sp := qdc p
  have sb := qdc b
  have pA : pre25 [] := rfl
  have fA : F25 [] = .one (.v (.bool true)) := rfl
  simp only [sNAdd, sNNx, sTr01, sNAg, sNew2, sNSm, sNBn, s25]
  by_cases h1 : 200 < p.length
  · have c1 : (200 : Int) < (p.length : Int) := by omega
    simp only [ir11, rs11, gl1, FTrue15, pA, fA, c1, sub_zero, qda, qai, List.length_cons, List.length_nil, Nat.reduceAdd, Nat.le_refl, Nat.reduceLeDiff, Nat.reduceLT, true_and, and_true, ↓evA, evB, evs, evp, mkB, repB, blen, ↓retQ, res, resAll, resOne, kill, apartOk, exp, injV, injB, pur, purs, purR, pursR, List.reduceReplicate, Nat.reduceAdd, Nat.reduceMul, Nat.reduceSub, Nat.reduceEqDiff, Nat.reduceLT, Int.reduceToNat, Int.reduceLE, Int.reduceLT, Int.reduceEq, reduceCtorEq, ↓reduceIte]
    exact out_bool rfl
  have c1 : ¬ (200 : Int) < (p.length : Int) := by omega
  by_cases h2 : 200 < b.length
  · have c2 : (200 : Int) < (b.length : Int) := by omega
    simp only [ir11, rs11, gl1, FTrue15, pA, fA, c1, c2, sub_zero, qda, qai, List.length_cons, List.length_nil, Nat.reduceAdd, Nat.le_refl, Nat.reduceLeDiff, Nat.reduceLT, true_and, and_true, ↓evA, evB, evs, evp, mkB, repB, blen, ↓retQ, res, resAll, resOne, kill, apartOk, exp, injV, injB, pur, purs, purR, pursR, List.reduceReplicate, Nat.reduceAdd, Nat.reduceMul, Nat.reduceSub, Nat.reduceEqDiff, Nat.reduceLT, Int.reduceToNat, Int.reduceLE, Int.reduceLT, Int.reduceEq, reduceCtorEq, ↓reduceIte]
    exact out_bool rfl
  have c2 : ¬ (200 : Int) < (b.length : Int) := by omega
  by_cases h3 : 100 < l.length
  · have c3 : (100 : Int) < (l.length : Int) := by omega
    simp only [ir11, rs11, gl1, FTrue15, pA, fA, c1, c2, c3, sub_zero, qda, qai, List.length_cons, List.length_nil, Nat.reduceAdd, Nat.le_refl, Nat.reduceLeDiff, Nat.reduceLT, true_and, and_true, ↓evA, evB, evs, evp, mkB, repB, blen, ↓retQ, res, resAll, resOne, kill, apartOk, exp, injV, injB, pur, purs, purR, pursR, List.reduceReplicate, Nat.reduceAdd, Nat.reduceMul, Nat.reduceSub, Nat.reduceEqDiff, Nat.reduceLT, Int.reduceToNat, Int.reduceLE, Int.reduceLT, Int.reduceEq, reduceCtorEq, ↓reduceIte]
    exact out_bool rfl
  have c3 : ¬ (100 : Int) < (l.length : Int) := by omega
  have pb := part_rsl hb
  have pp := part_rsl hp
  have fp : flat [V.rsl 1 p.length .u8 p] = p := by simp [flat]
  have q1 : preN1 [.v .nilp, .v (.rcs 1 1 [.rsl 1 b.length .u8 b])] := ⟨_, rfl, fun u hu => .inr ⟨_, hu.symm, pb⟩⟩
  have q2 : preN1 [.v .nilp, .v (.rsl 1 b.length .u8 b)] := ⟨_, rfl, fun u hu => .inl (hu ▸ pb)⟩
  have q3 : preTr01 [.v .nilp, .v (.str l)] := .inl ⟨l, rfl⟩
  have f3 : FTr01 [.v .nilp, .v (.str l)] = .many [.v (.ints .u8 zz), .v (.ints .u8 zz)] := rfl
  have q4 : preNAg [.v .nilp, .v (.rsl 1 p.length .u8 p)] := ⟨_, rfl, pp, by rw [fp]; omega⟩
  have f4 : FNAg [.v .nilp, .v (.rsl 1 p.length .u8 p)] = ([], .one (.p (fsS [] (hmac zz (pskOf (flat [V.rsl 1 p.length .u8 p])))))) := rfl
  have q5 : preNew2 [.v (.rsl 1 p.length .u8 p)] := ⟨_, rfl, pp, by rw [fp]; omega⟩
  have f5 : F28 [.v (.rsl 1 p.length .u8 p)] = ([], .one (.p (fsS [] (hmac zz (pskOf (flat [V.rsl 1 p.length .u8 p])))))) := rfl
  rw [fp] at f4 f5
  have hH : Sec (hmac zz (pskOf p)) := ⟨hmac_len _ _, hmac_dig _ _⟩
  obtain ⟨h, hh⟩ : ∃ h, hmac zz (pskOf p) = h := ⟨_, rfl⟩
  rw [hh] at f4 f5 hH
  have hob : Obj (.rpc (csS (.rsl 1 0 .u8 []) h) 0) [] h := ⟨_, rfl, part_rsl' (fun x hx => by simp at hx) rfl, rfl, by decide, hH⟩
  have hg := getO_obj hob
  have q6 : preTr01 [.v (.rpc (csS (.rsl 1 0 .u8 []) h) 0), .v (.str l)] := .inr ⟨_, [], h, _, rfl, hob, hl, by omega⟩
  have f6 : FTr01 [.v (.rpc (csS (.rsl 1 0 .u8 []) h) 0), .v (.str l)] = .many [.v (.ints .u8 (labkey h (trfC l) (sumS []))), .v (.ints .u8 (labkey h (trfS l) (sumS [])))] := by
    show Out.many [.v (.ints .u8 (labkey (getO (.rpc (csS (.rsl 1 0 .u8 []) h) 0)).2 (trfC l) (sumS (getO (.rpc (csS (.rsl 1 0 .u8 []) h) 0)).1))), .v (.ints .u8 (labkey (getO (.rpc (csS (.rsl 1 0 .u8 []) h) 0)).2 (trfS l) (sumS (getO (.rpc (csS (.rsl 1 0 .u8 []) h) 0)).1)))] = _
    rw [hg]
  have lA := (labkey_sec h (trfC l) (sumS [])).1
  have lB := (labkey_sec h (trfS l) (sumS [])).1
  obtain ⟨A, hA1⟩ : ∃ k, labkey h (trfC l) (sumS []) = k := ⟨_, rfl⟩
  obtain ⟨B, hB⟩ : ∃ k, labkey h (trfS l) (sumS []) = k := ⟨_, rfl⟩
  rw [hA1, hB] at f6
  rw [hA1] at lA
  rw [hB] at lB
  have z : ∀ {Z : List Int}, Z.length = 32 → spl [0, 0, 0, 0, 0, 0, 0, 0, 0, 0, 0, 0, 0, 0, 0, 0, 0, 0, 0, 0, 0, 0, 0, 0, 0, 0, 0, 0, 0, 0, 0, 0] 0 Z = Z := fun h => qda (by simp [h])
  have pA' := z lA
  have pB := z lB
  have sA : sub A 0 32 = A := sub_zero lA
  have sB : sub B 0 32 = B := sub_zero lB
  have s0 : sub ([] : List Int) 0 0 = [] := rfl
  have sz : sub [0, 0, 0, 0, 0, 0, 0, 0, 0, 0, 0, 0, 0, 0, 0, 0, 0, 0, 0, 0, 0, 0, 0, 0, 0, 0, 0, 0, 0, 0, 0, 0] 0 32 = [0, 0, 0, 0, 0, 0, 0, 0, 0, 0, 0, 0, 0, 0, 0, 0, 0, 0, 0, 0, 0, 0, 0, 0, 0, 0, 0, 0, 0, 0, 0, 0] := rfl
  have pz : spl [0, 0, 0, 0, 0, 0, 0, 0, 0, 0, 0, 0, 0, 0, 0, 0, 0, 0, 0, 0, 0, 0, 0, 0, 0, 0, 0, 0, 0, 0, 0, 0] 0 [0, 0, 0, 0, 0, 0, 0, 0, 0, 0, 0, 0, 0, 0, 0, 0, 0, 0, 0, 0, 0, 0, 0, 0, 0, 0, 0, 0, 0, 0, 0, 0] = [0, 0, 0, 0, 0, 0, 0, 0, 0, 0, 0, 0, 0, 0, 0, 0, 0, 0, 0, 0, 0, 0, 0, 0, 0, 0, 0, 0, 0, 0, 0, 0] := rfl
  have fz : FNz = fun _ => .one (.v (.ints .u8 [0, 0, 0, 0, 0, 0, 0, 0, 0, 0, 0, 0, 0, 0, 0, 0, 0, 0, 0, 0, 0, 0, 0, 0, 0, 0, 0, 0, 0, 0, 0, 0])) := rfl
  have f0 : FN0 = fun _ => .many [] := rfl
  have hl1 := hH.1
  simp only [zz, List.reduceReplicate] at f3
  simp only [csS] at q6 f6
  simp only [fsS] at f4 f5
  simp only [ir11, rs11, gl1, FTrue15, pA, fA, c1, c2, c3, sp, sb, q1, q2, q3, f3, q4, f4, q5, f5, q6, f6, fz, f0, lA, lB, pA', pB, sA, sB, s0, sz, pz, hl1, eq_self, injs_ints, blks_ints, cnts_ints, ↓frzs_ints, List.length_map, sub_zero, qda, qai, List.length_cons, List.length_nil, Nat.reduceAdd, Nat.le_refl, Nat.reduceLeDiff, Nat.reduceLT, true_and, and_true, ↓qaq, ↓qan, ↓qao, ↓qap, ↓qam, ↓qaj, ↓qak, ↓qal, idsEs, idsE, idss, killB, effE, stA, deads, nwA, cntA, cnts, cnt, valO, blkO, inj, injs, blk, blks, outA, outR, outE, outEs, sids, List.nodup_cons, List.nodup_nil, List.not_mem_nil, List.mem_cons, or_false, false_or, not_or, ↓evA, evB, evs, evp, mkB, repB, blen, ↓retQ, res, resAll, resOne, kill, apartOk, exp, injV, injB, pur, purs, purR, pursR, List.reduceReplicate, Nat.reduceAdd, Nat.reduceMul, Nat.reduceSub, Nat.reduceEqDiff, Nat.reduceLT, Int.reduceToNat, Int.reduceLE, Int.reduceLT, Int.reduceEq, reduceCtorEq, ↓reduceIte]
  repeat (refine And.intro (by omega) ?_)
  exact out_bool rfl
end Am
set_option linter.unusedSimpArgs false
set_option linter.unusedVariables false
set_option maxRecDepth 20000
namespace Am
open Go.Proofs
/-! ### SecretsCuts -/
def preCuts (ds : List D) : Prop := ∃ (p o a k : List Int) (c : Int), ds = [.s .u8 p, .s .u8 o, .s .u8 a, .s .u8 k, .v (.int .u8 c)] ∧ Dig 256 p ∧ Dig 256 o ∧ Dig 256 a ∧ Dig 256 k ∧ 0 ≤ c ∧ c < 256
theorem flatq {n : Nat} {xs : List Int} : flat [V.rsl 1 n .u8 xs] = xs := by simp [flat]
theorem adL_f {b now xs : List Int} {n : Nat} : FAdL [.p (fsS b now), .v (.rcs 1 1 [.rsl 1 n .u8 xs])] = ([fsS (b ++ xs) now], .many []) := by
  show ([fsS (b ++ flat [V.rsl 1 n .u8 xs]) now], EOut.many []) = _
  rw [flatq]
theorem adL_q {b now xs : List Int} {n : Nat} (hb : Dig 256 b) (hn : Sec now) (hx : Dig 256 xs) (hl : n = xs.length) (h : b.length + xs.length ≤ 1000) : preAdL [.p (fsS b now), .v (.rcs 1 1 [.rsl 1 n .u8 xs])] :=
  ⟨b, now, [.rsl 1 n .u8 xs], rfl, hb, hn, parts_cons (part_rsl' hx hl) parts_nil, by simp, by rw [flatq, List.length_append]; omega⟩
theorem tr_q {b now l : List Int} (hb : Dig 256 b) (hbl : b.length ≤ 549755813888) (hn : Sec now) (hl : Dig 256 l) (hll : l.length ≤ 1000000) : preTr01 [.v (.rpc (csS (.rsl 1 b.length .u8 b) now) 0), .v (.str l)] :=
  .inr ⟨_, b, now, _, rfl, obj_rsl hb hbl hn, hl, hll⟩
theorem tr_f {b now l : List Int} (hb : Dig 256 b) (hbl : b.length ≤ 549755813888) (hn : Sec now) : FTr01 [.v (.rpc (csS (.rsl 1 b.length .u8 b) now) 0), .v (.str l)] = .many [.v (.ints .u8 (labkey now (trfC l) (sumS b))), .v (.ints .u8 (labkey now (trfS l) (sumS b)))] := by
  have hg := getO_obj (obj_rsl hb hbl hn)
  show Out.many [.v (.ints .u8 (labkey (getO (.rpc (csS (.rsl 1 b.length .u8 b) now) 0)).2 (trfC l) (sumS (getO (.rpc (csS (.rsl 1 b.length .u8 b) now) 0)).1))), .v (.ints .u8 (labkey (getO (.rpc (csS (.rsl 1 b.length .u8 b) now) 0)).2 (trfS l) (sumS (getO (.rpc (csS (.rsl 1 b.length .u8 b) now) 0)).1)))] = _
  rw [hg]
def lap : List Int := [97, 112]
set_option maxHeartbeats 8000000 in
theorem lawSecretsCuts : ∀ ds, preCuts ds → Does Tryd.prog gl1 10 (injV ds 4) (gl1 ++ injB true ds) (out (4 + (injB true ds).length) (FTrue15 ds)) := by
  refine fdoesA (l := [(25, s25), (34, sAdd), (30, sNx), (35, sTr01), (33, sAg), (28, sNew2), (36, sSm01), (37, sBnd)]) mixed gl1_plain rfl Tryd.func10 comp10 compR10 nt10 (by simp only [List.mem_cons, List.not_mem_nil, or_false, forall_eq_or_imp, forall_eq]; exact ⟨ok25, okAdd, okNx, okTr01, okAg, okNew2, okSm01, okBnd⟩) fun ds ⟨p, o, a, k, c, hd, hp, ho, ha, hk, hc⟩ hA => ?_
  obtain ⟨c, rfl⟩ := Int.eq_ofNat_of_zero_le hc.1
  subst hd
  have sp := qdc p
  have so := qdc o
  have sa := qdc a
  have sk := qdc k
  have pA : pre25 [] := rfl
  have fA : F25 [] = .one (.v (.bool true)) := rfl
  simp only [sAdd, sNx, sTr01, sAg, sNew2, sSm01, sBnd, shS1, s25]
  by_cases h1 : 60 < p.length
  · have c1 : (60 : Int) < (p.length : Int) := by omega
    simp only [ir10, rs10, gl1, FTrue15, pA, fA, c1, sub_zero, qda, qai, List.length_cons, List.length_nil, Nat.reduceAdd, Nat.le_refl, Nat.reduceLeDiff, Nat.reduceLT, true_and, and_true, ↓evA, evB, evs, evp, mkB, repB, blen, ↓retQ, res, resAll, resOne, kill, apartOk, exp, injV, injB, pur, purs, purR, pursR, List.reduceReplicate, Nat.reduceAdd, Nat.reduceMul, Nat.reduceSub, Nat.reduceEqDiff, Nat.reduceLT, Int.reduceToNat, Int.reduceLE, Int.reduceLT, Int.reduceEq, reduceCtorEq, ↓reduceIte]
    exact out_bool rfl
  have c1 : ¬ (60 : Int) < (p.length : Int) := by omega
  by_cases h2 : 60 < o.length
  · have c2 : (60 : Int) < (o.length : Int) := by omega
    simp only [ir10, rs10, gl1, FTrue15, pA, fA, c1, c2, sub_zero, qda, qai, List.length_cons, List.length_nil, Nat.reduceAdd, Nat.le_refl, Nat.reduceLeDiff, Nat.reduceLT, true_and, and_true, ↓evA, evB, evs, evp, mkB, repB, blen, ↓retQ, res, resAll, resOne, kill, apartOk, exp, injV, injB, pur, purs, purR, pursR, List.reduceReplicate, Nat.reduceAdd, Nat.reduceMul, Nat.reduceSub, Nat.reduceEqDiff, Nat.reduceLT, Int.reduceToNat, Int.reduceLE, Int.reduceLT, Int.reduceEq, reduceCtorEq, ↓reduceIte]
    exact out_bool rfl
  have c2 : ¬ (60 : Int) < (o.length : Int) := by omega
  by_cases h3 : 200 < a.length
  · have c3 : (200 : Int) < (a.length : Int) := by omega
    simp only [ir10, rs10, gl1, FTrue15, pA, fA, c1, c2, c3, sub_zero, qda, qai, List.length_cons, List.length_nil, Nat.reduceAdd, Nat.le_refl, Nat.reduceLeDiff, Nat.reduceLT, true_and, and_true, ↓evA, evB, evs, evp, mkB, repB, blen, ↓retQ, res, resAll, resOne, kill, apartOk, exp, injV, injB, pur, purs, purR, pursR, List.reduceReplicate, Nat.reduceAdd, Nat.reduceMul, Nat.reduceSub, Nat.reduceEqDiff, Nat.reduceLT, Int.reduceToNat, Int.reduceLE, Int.reduceLT, Int.reduceEq, reduceCtorEq, ↓reduceIte]
    exact out_bool rfl
  have c3 : ¬ (200 : Int) < (a.length : Int) := by omega
  by_cases h4 : 200 < k.length
  · have c4 : (200 : Int) < (k.length : Int) := by omega
    simp only [ir10, rs10, gl1, FTrue15, pA, fA, c1, c2, c3, c4, sub_zero, qda, qai, List.length_cons, List.length_nil, Nat.reduceAdd, Nat.le_refl, Nat.reduceLeDiff, Nat.reduceLT, true_and, and_true, ↓evA, evB, evs, evp, mkB, repB, blen, ↓retQ, res, resAll, resOne, kill, apartOk, exp, injV, injB, pur, purs, purR, pursR, List.reduceReplicate, Nat.reduceAdd, Nat.reduceMul, Nat.reduceSub, Nat.reduceEqDiff, Nat.reduceLT, Int.reduceToNat, Int.reduceLE, Int.reduceLT, Int.reduceEq, reduceCtorEq, ↓reduceIte]
    exact out_bool rfl
  have c4 : ¬ (200 : Int) < (k.length : Int) := by omega
  have wc : Go.IntKind.i64.wrap (c : Int) = (c : Int) := by rw [wrap_i64]; omega
  obtain ⟨N, hN⟩ : ∃ N, min c a.length = N := ⟨_, rfl⟩
  have wm : min (c : Int) (a.length : Int) = (N : Int) := by omega
  have hNa : N ≤ a.length := by omega
  have dn : Dig 256 ([] : List Int) := fun x hx => by simp at hx
  -- the two schedules
  have q1 : preNew2 [.v (.rsl 1 p.length .u8 p)] := ⟨_, rfl, part_rsl hp, by rw [flatq]; omega⟩
  have f1 : F28 [.v (.rsl 1 p.length .u8 p)] = ([], .one (.p (fsS [] (hmac zz (pskOf (flat [V.rsl 1 p.length .u8 p])))))) := rfl
  have q2 : preNew2 [.v (.rsl 1 o.length .u8 o)] := ⟨_, rfl, part_rsl ho, by rw [flatq]; omega⟩
  have f2 : F28 [.v (.rsl 1 o.length .u8 o)] = ([], .one (.p (fsS [] (hmac zz (pskOf (flat [V.rsl 1 o.length .u8 o])))))) := rfl
  have fag : ∀ b now : List Int, FAg [.p (fsS b now), .v (.rsl 1 p.length .u8 p)] = ([.x :: now.map (fun x => .v (.int .u8 x))], .one (.p (fsS b (hmac zz (pskOf (flat [V.rsl 1 p.length .u8 p])))))) := fun b now => rfl
  rw [flatq] at f1 f2
  simp only [flatq] at fag
  have hH1 : Sec (hmac zz (pskOf p)) := ⟨hmac_len _ _, hmac_dig _ _⟩
  have hH2 : Sec (hmac zz (pskOf o)) := ⟨hmac_len _ _, hmac_dig _ _⟩
  obtain ⟨h1p, hh1⟩ : ∃ h, hmac zz (pskOf p) = h := ⟨_, rfl⟩
  obtain ⟨h2p, hh2⟩ : ∃ h, hmac zz (pskOf o) = h := ⟨_, rfl⟩
  rw [hh1] at f1 hH1
  simp only [hh1] at fag
  rw [hh2] at f2 hH2
  -- the messages
  have a1l : (sub a 0 N).length = N := by simp [sub]; omega
  have a2l : (sub a N (a.length - N)).length = a.length - N := by simp [sub]
  have a12 : sub a 0 N ++ sub a N (a.length - N) = a := by
    simp only [sub, List.drop_zero]
    rw [List.take_of_length_le (l := a.drop N) (by simp), List.take_append_drop]
  have d1 : Dig 256 (sub a 0 N) := fun x hx => ha x (List.mem_of_mem_take hx)
  have d2 : Dig 256 (sub a N (a.length - N)) := fun x hx => ha x (List.mem_of_mem_drop (List.mem_of_mem_take hx))
  obtain ⟨a1, ea1⟩ : ∃ x, sub a 0 N = x := ⟨_, rfl⟩
  obtain ⟨a2, ea2⟩ : ∃ x, sub a N (a.length - N) = x := ⟨_, rfl⟩
  rw [ea1] at a1l a12 d1
  rw [ea2] at a2l a12 d2
  have qx := adL_q (n := a.length) dn hH1 ha rfl (by simp; omega)
  have fx := adL_f (b := []) (now := h1p) (xs := a) (n := a.length)
  have qy := adL_q (n := N) dn hH2 d1 a1l.symm (by simp; omega)
  have fy := adL_f (b := []) (now := h2p) (xs := a1) (n := N)
  have qz := adL_q (n := a.length - N) d1 hH1 d2 a2l.symm (by omega)
  have fz := adL_f (b := a1) (now := h1p) (xs := a2) (n := a.length - N)
  rw [a12] at fz
  rw [List.nil_append] at fx fy
  have qg : preAg [.p (fsS a1 h2p), .v (.rsl 1 p.length .u8 p)] := ⟨_, _, _, rfl, d1, by omega, hH2, part_rsl hp, by rw [flatq]; omega⟩
  have fg := fag a1 h2p
  -- what is asked
  have hob := obj_rsl ha (by omega) hH1
  have qs : preSm01 [.v (.rpc (csS (.rsl 1 a.length .u8 a) h1p) 0), .v (.rcs 1 1 [.rsl 1 k.length .u8 k])] := .inr ⟨_, _, a, h1p, rfl, hob, part_rsl hk, by rw [flatq]; omega⟩
  have fs : FSm01 [.v (.rpc (csS (.rsl 1 a.length .u8 a) h1p) 0), .v (.rcs 1 1 [.rsl 1 k.length .u8 k])] = .one (.v (.ints .u8 (sumS ((getO (.rpc (csS (.rsl 1 a.length .u8 a) h1p) 0)).1 ++ flat [V.rsl 1 k.length .u8 k])))) := rfl
  rw [getO_obj hob, flatq] at fs
  have qb : preBnd [.v (.rpc (csS (.rsl 1 a.length .u8 a) h1p) 0), .v (.rsl 1 k.length .u8 k)] := ⟨_, _, a, h1p, rfl, hob, part_rsl hk, by rw [flatq]; omega⟩
  have fb : FBnd [.v (.rpc (csS (.rsl 1 a.length .u8 a) h1p) 0), .v (.rsl 1 k.length .u8 k)] = .one (.v (.ints .u8 (bindS (getO (.rpc (csS (.rsl 1 a.length .u8 a) h1p) 0)).2 (flat [V.rsl 1 k.length .u8 k])))) := rfl
  rw [getO_obj hob, flatq] at fb
  have qt := tr_q (l := lhs2) ha (by omega) hH1 (lit_dig rfl) (by decide)
  have ft := tr_f (l := lhs2) ha (by omega) hH1
  have qn : preNx [.p (fsS a h1p), .v (.rsl 1 k.length .u8 k)] := ⟨_, _, _, rfl, ha, by omega, hH1, part_rsl hk, by rw [flatq]; omega⟩
  have fn : FNx [.p (fsS a h1p), .v (.rsl 1 k.length .u8 k)] = ([fsS a (nextS h1p k)], .many []) := by
    show ([fsS a (nextS (nowE (h1p.map fun x => .v (.int .u8 x))) (flat [V.rsl 1 k.length .u8 k]))], EOut.many []) = _
    rw [nowE_ints, flatq]
  have hH3 : Sec (nextS h1p k) := ⟨hmac_len _ _, hmac_dig _ _⟩
  obtain ⟨h3p, hh3⟩ : ∃ h, nextS h1p k = h := ⟨_, rfl⟩
  rw [hh3] at fn hH3
  have qu := tr_q (l := lap) ha (by omega) hH3 (lit_dig rfl) (by decide)
  have fu := tr_f (l := lap) ha (by omega) hH3
  have hob3 := obj_rsl ha (by omega) hH3
  have qv : preSm01 [.v (.rpc (csS (.rsl 1 a.length .u8 a) h3p) 0), .v .nils] := .inl ⟨_, a, h3p, rfl, hob3⟩
  have fv : FSm01 [.v (.rpc (csS (.rsl 1 a.length .u8 a) h3p) 0), .v .nils] = .one (.v (.ints .u8 (sumS (getO (.rpc (csS (.rsl 1 a.length .u8 a) h3p) 0)).1))) := rfl
  rw [getO_obj hob3] at fv
  -- names
  have lA := (labkey_sec h1p (trfC lhs2) (sumS a)).1
  have lB := (labkey_sec h1p (trfS lhs2) (sumS a)).1
  have lC := (labkey_sec h3p (trfC lap) (sumS a)).1
  have lD := (labkey_sec h3p (trfS lap) (sumS a)).1
  have lS := (sumS_sec a).1
  obtain ⟨A, hA1⟩ : ∃ x, labkey h1p (trfC lhs2) (sumS a) = x := ⟨_, rfl⟩
  obtain ⟨B, hB1⟩ : ∃ x, labkey h1p (trfS lhs2) (sumS a) = x := ⟨_, rfl⟩
  obtain ⟨C, hC1⟩ : ∃ x, labkey h3p (trfC lap) (sumS a) = x := ⟨_, rfl⟩
  obtain ⟨E', hE1⟩ : ∃ x, labkey h3p (trfS lap) (sumS a) = x := ⟨_, rfl⟩
  obtain ⟨S, hS1⟩ : ∃ x, sumS a = x := ⟨_, rfl⟩
  rw [hA1, hB1] at ft
  rw [hC1, hE1] at fu
  rw [hA1] at lA
  rw [hB1] at lB
  rw [hC1] at lC
  rw [hE1] at lD
  rw [hS1] at fv lS
  obtain ⟨U, hU⟩ : ∃ x, sumS (a ++ k) = x := ⟨_, rfl⟩
  obtain ⟨W, hW⟩ : ∃ x, bindS h1p k = x := ⟨_, rfl⟩
  rw [hU] at fs
  rw [hW] at fb
  have z : ∀ {Z : List Int}, Z.length = 32 → spl [0, 0, 0, 0, 0, 0, 0, 0, 0, 0, 0, 0, 0, 0, 0, 0, 0, 0, 0, 0, 0, 0, 0, 0, 0, 0, 0, 0, 0, 0, 0, 0] 0 Z = Z := fun h => qda (by simp [h])
  have zA := z lA
  have zB := z lB
  have zC := z lC
  have zD := z lD
  have tA : sub A 0 32 = A := sub_zero lA
  have tB : sub B 0 32 = B := sub_zero lB
  have tC : sub C 0 32 = C := sub_zero lC
  have tD : sub E' 0 32 = E' := sub_zero lD
  have s0 : sub ([] : List Int) 0 0 = [] := rfl
  have r1 : ∀ (hp hk : List Blk) (J : List E → Prop), rdEs hp hk shN (h1p.map (V.int .u8)) J = J (h1p.map fun x => .v (.int .u8 x)) := fun hp hk J => rdEs_N hH1.1
  have r2 : ∀ (hp hk : List Blk) (J : List E → Prop), rdEs hp hk shN (h2p.map (V.int .u8)) J = J (h2p.map fun x => .v (.int .u8 x)) := fun hp hk J => rdEs_N hH2.1
  have r3 : ∀ (hp hk : List Blk) (J : List E → Prop), rdEs hp hk shN (h3p.map (V.int .u8)) J = J (h3p.map fun x => .v (.int .u8 x)) := fun hp hk J => rdEs_N hH3.1
  have l1 := hH1.1
  have l2 := hH2.1
  have l3 := hH3.1
  have sa1 : sub a1 0 N = a1 := sub_zero a1l
  simp only [fsS, List.length_nil] at f1 f2 qx fx qy fy qz fz qg fg qn fn
  simp only [a1l] at fy qz fz qg fg
  simp only [csS, lhs2, lap] at qs fs qb fb qt ft qu fu qv fv
  simp only [ir10,rs10,gl1,FTrue15,pA,fA,c1,c2,c3,c4,wc,wm,hNa,sp,so,sa,sk,ea1,ea2,sa1,a1l,a2l,q1,f1,q2,f2,qx,fx,qy,fy,qz,fz,qg,fg,qs,fs,qb,fb,qt,ft,qn,fn,qu,fu,qv,fv,lA,lB,lC,lD,lS,zA,zB,zC,zD,tA,tB,tC,tD,s0,l1,l2,l3,↓r1,↓r2,↓r3,eq_self,injs_ints,blks_ints,cnts_ints,idsEs_N,↓frzs_ints,List.length_map,sub_zero,qda,qai,List.length_cons,List.length_nil,Nat.reduceAdd,Nat.le_refl,Nat.reduceLeDiff,Nat.reduceLT,true_and,and_true,↓qaq,↓qan,↓qao,↓qap,↓qam,↓qaj,↓qak,↓qal,idsEs,idsE,idss,killB,effE,stA,deads,nwA,cntA,cnts,cnt,valO,blkO,inj,injs,blk,blks,outA,outR,outE,outEs,sids,List.nodup_cons,List.nodup_nil,List.not_mem_nil,List.mem_cons,or_false,false_or,not_or,↓evA,evB,evs,evp,mkB,repB,blen,↓retQ,res,resAll,resOne,kill,apartOk,exp,injV,injB,pur,purs,purR,pursR,List.reduceReplicate,Nat.reduceAdd,Nat.reduceMul,Nat.reduceSub,Nat.reduceEqDiff,Nat.reduceLT,Int.reduceToNat,Int.reduceLE,Int.reduceLT,Int.reduceEq,reduceCtorEq,↓reduceIte]
  repeat (refine And.intro (by omega) ?_)
  exact out_bool rfl
end Am
