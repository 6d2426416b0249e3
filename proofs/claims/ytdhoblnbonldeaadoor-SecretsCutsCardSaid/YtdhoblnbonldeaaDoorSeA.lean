/-
Working texts: contracts of functions, and the numbers behind them.
-/
import Derived.Test.YtdhoblnbonldeaaDoorGkA
import Derived.Test.YtdhoblnbonldeaaDoorIrF
import Derived.Test.YtdhoblnbonldeaaDoorAmLoop
set_option linter.unusedSimpArgs false
set_option linter.unusedVariables false
set_option linter.unusedSectionVars false
set_option linter.unusedSimpArgs false
set_option linter.unusedVariables false
set_option maxRecDepth 20000
namespace Am
open Go.Proofs
/-! ### A schedule: the messages so far and the secret -/
def fsS (b now : List Int) : List E := .s 1 b.length .u8 b :: now.map (fun x => .v (.int .u8 x))
def csS (c : V) (now : List Int) : List V := c :: now.map (V.int .u8)
theorem injs_ints {k : Go.IntKind} : ∀ {xs : List Int} {n : Nat}, injs (xs.map fun x => E.v (.int k x)) n = xs.map (V.int k)
  | [], _ => rfl
  | x :: xs, n => by simp only [List.map_cons, injs, inj, cnt, Nat.add_zero, injs_ints (xs := xs)]
theorem blks_ints {k : Go.IntKind} : ∀ {xs : List Int} {n : Nat}, blks (xs.map fun x => E.v (.int k x)) n = []
  | [], _ => rfl
  | x :: xs, n => by simp only [List.map_cons, blks, blk, cnt, Nat.add_zero, List.nil_append, blks_ints (xs := xs)]
theorem cnts_ints {k : Go.IntKind} : ∀ {xs : List Int}, cnts (xs.map fun x => E.v (.int k x)) = 0
  | [] => rfl
  | x :: xs => by simp only [List.map_cons, cnts, cnt, Nat.zero_add, cnts_ints (xs := xs)]
theorem outEs_ints {hp : List Blk} {k : Go.IntKind} {used : List Nat} {K : List Nat → Prop} : ∀ {xs : List Int}, K used → outEs hp (xs.map fun x => E.v (.int k x)) (xs.map (V.int k)) used K
  | [], h => by simpa [outEs] using h
  | x :: xs, h => by
    simp only [List.map_cons, outEs, outE]
    exact ⟨by simp [pur], outEs_ints h⟩
theorem frzs_ints {hp : List Blk} {d : Nat} {k : Go.IntKind} : ∀ {xs : List Int} {J : List V → Prop}, frzs (frz hp (d + 1)) (xs.map (V.int k)) J = J (xs.map (V.int k))
  | [], J => by rw [List.map_nil, frzs]
  | x :: xs, J => by rw [List.map_cons, frzs, qbo, frzs_ints (xs := xs)]
def zz : List Int := List.replicate 32 0
def pskOf (b : List Int) : List Int := if b.length = 0 then zz else b
def preNew (ds : List E) : Prop := ds = [.v .nils]
def F28 : List E → List (List E) × EOut
  | [.v v] => ([], .one (.p (fsS [] (hmac zz (pskOf (flat [v]))))))
  | _ => ([], .one (.v .nilp))
def s28 : Summ := sEff [.r] preNew F28
theorem zz_dig : Dig 256 zz := fun x hx => by rw [(List.mem_replicate.1 hx).2]; decide
theorem ok28 {g : List Blk} [Ge gl g] : SumOK Tryd.prog g 28 s28 ∧ SumAbs s28 := by
  refine esumA (l := [(39, s39)]) mixed gl_plain rfl Tryd.func28 comp28 compR28 nt28 (by simp only [List.mem_cons, List.not_mem_nil, or_false, forall_eq]; exact ok39) fun ds hd hA => ?_
  rw [hd]
  have sz : sub zz 0 32 = zz := rfl
  have hF : F28 [.v .nils] = ([], .one (.p (fsS [] (hmac zz zz)))) := rfl
  have q : pre39 [.s .u8 zz, .s .u8 zz] := ⟨_, _, rfl, zz_dig, by decide, zz_dig, by decide⟩
  have hm := hmac_len zz zz
  obtain ⟨h, hh⟩ : ∃ h, hmac zz zz = h := ⟨_, rfl⟩
  rw [hh] at hm hF
  have fin' : spl (V.nils :: List.replicate 32 (V.int .u8 0)) 1 (h.map (V.int .u8)) = .nils :: h.map (V.int .u8) := by simp [spl, hm]
  simp only [zz, List.reduceReplicate] at q hh sz fin'
  simp only [s39]
  simp only [ir28, rs28, gl, hF, sz, q, hh, hm, fin', s39, F39, List.length_map, sub_zero, qda, qai, List.length_cons, List.length_nil, Nat.reduceAdd, Nat.le_refl, Nat.reduceLeDiff, Nat.reduceLT, true_and, and_true, ↓qaq, ↓qan, ↓qao, ↓qap, ↓qam, ↓qaj, ↓qak, ↓qal, idsEs, idsE, idss, killB, effE, stA, deads, nwA, cntA, cnts, cnt, valO, blkO, inj, injs, blk, blks, outA, outR, outE, outEs, sids, List.nodup_cons, List.nodup_nil, List.not_mem_nil, List.mem_cons, or_false, false_or, not_or, ↓evA, evB, evs, evp, mkB, repB, blen, ↓retQ, res, resAll, resOne, kill, apartOk, exp, injV, injB, pur, purs, purR, pursR, List.reduceReplicate, Nat.reduceAdd, Nat.reduceMul, Nat.reduceSub, Nat.reduceEqDiff, Nat.reduceLT, Int.reduceToNat, Int.reduceLE, Int.reduceLT, Int.reduceEq, reduceCtorEq, ↓reduceIte]
  refine ⟨by decide, by decide, ?_⟩
  show outEs _ (.s 1 0 .u8 [] :: h.map (fun x => .v (.int .u8 x))) (.nils :: h.map (V.int .u8)) _ _
  rw [outEs, outE]
  exact ⟨⟨rfl, rfl⟩, outEs_ints trivial⟩
/-! ### What is asked of one -/
def Obj (v : V) (b now : List Int) : Prop := ∃ c : V, v = .rpc (csS c now) 0 ∧ Part c ∧ flat [c] = b ∧ b.length ≤ 549755813888 ∧ Sec now
def sumS (b : List Int) : List Int := sum256 (padded b 64)
def getO : V → List Int × List Int
  | .rpc (c :: r) _ => (flat [c], r.map fun | .int _ n => n | _ => 0)
  | _ => default
theorem getO_obj {v : V} {b now : List Int} (h : Obj v b now) : getO v = (b, now) := by
  obtain ⟨c, rfl, -, hf, -⟩ := h
  simp [getO, csS, hf, Function.comp_def]
def preLog0 (ds : List D) : Prop := ∃ (v : V) (b now : List Int), ds = [.v v, .v .nils] ∧ Obj v b now
def F59 : List D → Out
  | [.v v, _] => .one (.v (.ints .u8 (sumS (getO v).1)))
  | _ => bad
def s59 : Summ := sData [.r, .v] preLog0 F59
theorem ok59 {g : List Blk} [Ge gl g] : SumOK Tryd.prog g 59 s59 ∧ SumAbs s59 := by
  refine fsumA (l := [(56, s56)]) mixed gl_plain rfl Tryd.func59 comp59 compR59 nt59 (by simp only [List.mem_cons, List.not_mem_nil, or_false, forall_eq]; exact ok56) fun ds ⟨v, b, now, hd, ho⟩ hA => ?_
  subst hd
  have hg := getO_obj ho
  obtain ⟨c, rfl, hc, hf, hbl, hn⟩ := ho
  have hF : F59 [.v (.rpc (csS c now) 0), .v .nils] = .one (.v (.ints .u8 (sumS b))) := by
    show Out.one (.v (.ints .u8 (sumS (getO (.rpc (csS c now) 0)).1))) = _
    rw [hg]
  have q : preParts [.v (.rcs 1 1 [c])] := ⟨[c], rfl, parts_cons hc parts_nil, by rw [hf]; omega, by simp⟩
  have hs : sum256 (padded (flat [c]) 64) = sumS b := by rw [hf]; rfl
  have sl : (sumS b).length = 32 := sum256_len _
  have ps : spl [0, 0, 0, 0, 0, 0, 0, 0, 0, 0, 0, 0, 0, 0, 0, 0, 0, 0, 0, 0, 0, 0, 0, 0, 0, 0, 0, 0, 0, 0, 0, 0] 0 (sumS b) = sumS b := qda (by simp [sl])
  have ss : sub (sumS b) 0 32 = sumS b := sub_zero sl
  simp only [csS] at hF
  simp only [s56]
  rcases hc with rfl | ⟨xs, rfl, hx⟩
  all_goals
    simp only [ir59, rs59, gl, hF, csS, q, hs, sl, ps, ss, s56, F56, sub_zero, qda, qai, List.length_cons, List.length_nil, Nat.reduceAdd, Nat.le_refl, Nat.reduceLeDiff, Nat.reduceLT, true_and, and_true, ↓evA, evB, evs, evp, mkB, repB, blen, ↓retQ, res, resAll, resOne, kill, apartOk, exp, injV, injB, pur, purs, purR, pursR, List.reduceReplicate, Nat.reduceAdd, Nat.reduceMul, Nat.reduceSub, Nat.reduceEqDiff, Nat.reduceLT, Int.reduceToNat, Int.reduceLE, Int.reduceLT, Int.reduceEq, reduceCtorEq, ↓reduceIte]
    repeat (refine And.intro (by omega) ?_)
    simp only [out, outs, out1, pur, and_self]
def preDer (ds : List D) : Prop := ∃ (v : V) (b now l s : List Int), ds = [.v v, .v (.str l), .v (.ints .u8 s)] ∧ Obj v b now ∧ Dig 256 l ∧ Sec s
def F55 : List D → Out
  | [.v v, .v (.str l), .v (.ints _ s)] => .one (.v (.ints .u8 (labkey (getO v).2 l s)))
  | _ => bad
def s55 : Summ := sData [.r, .v, .v] preDer F55
theorem labkey_sec (s l c : List Int) : Sec (labkey s l c) := by
  unfold labkey; split
  · exact ⟨by simp, fun x hx => by rw [(List.mem_replicate.1 hx).2]; decide⟩
  · exact ⟨expand_len _ _ _, expand_dig _ _ _⟩
theorem ok55 {g : List Blk} [Ge gl g] : SumOK Tryd.prog g 55 s55 ∧ SumAbs s55 := by
  refine fsumA (l := [(40, s40)]) mixed gl_plain rfl Tryd.func55 comp55 compR55 nt55 (by simp only [List.mem_cons, List.not_mem_nil, or_false, forall_eq]; exact ok40) fun ds ⟨v, b, now, l, s, hd, ho, hl, hs⟩ hA => ?_
  subst hd
  have hg := getO_obj ho
  obtain ⟨c, rfl, hc, hf, hbl, hn⟩ := ho
  have hnl := hn.1
  have hsl := hs.1
  have hF : F55 [.v (.rpc (csS c now) 0), .v (.str l), .v (.ints .u8 s)] = .one (.v (.ints .u8 (labkey now l s))) := by
    show Out.one (.v (.ints .u8 (labkey (getO (.rpc (csS c now) 0)).2 l s))) = _
    rw [hg]
  have q : pre40 [.v (.ints .u8 now), .v (.str l), .s .u8 s] := ⟨_, _, _, rfl, hn.2, hnl, hl, hs.2⟩
  have e1 : sub (c :: now.map (V.int .u8)) 1 32 = now.map (V.int .u8) := by
    show (now.map (V.int .u8)).take 32 = _
    exact List.take_of_length_le (by simp [hnl])
  have e2 : agI (now.map (V.int .u8)) = .ints .u8 now := agI_ints (fun h => by rw [h] at hnl; cases hnl)
  have ss : sub s 0 32 = s := sub_zero hsl
  obtain ⟨k, hk⟩ : ∃ k, labkey now l s = k := ⟨_, rfl⟩
  have kl : k.length = 32 := by rw [← hk]; exact (labkey_sec _ _ _).1
  have pk : spl [0, 0, 0, 0, 0, 0, 0, 0, 0, 0, 0, 0, 0, 0, 0, 0, 0, 0, 0, 0, 0, 0, 0, 0, 0, 0, 0, 0, 0, 0, 0, 0] 0 k = k := qda (by simp [kl])
  have sk : sub k 0 32 = k := sub_zero kl
  simp only [csS] at hF
  rw [hk] at hF
  simp only [s40]
  simp only [ir55, rs55, gl, hF, csS, q, e1, e2, hnl, hsl, ss, hk, kl, pk, sk, List.length_map, s40, F40, sub_zero, qda, qai, List.length_cons, List.length_nil, Nat.reduceAdd, Nat.le_refl, Nat.reduceLeDiff, Nat.reduceLT, true_and, and_true, ↓evA, evB, evs, evp, mkB, repB, blen, ↓retQ, res, resAll, resOne, kill, apartOk, exp, injV, injB, pur, purs, purR, pursR, List.reduceReplicate, Nat.reduceAdd, Nat.reduceMul, Nat.reduceSub, Nat.reduceEqDiff, Nat.reduceLT, Int.reduceToNat, Int.reduceLE, Int.reduceLT, Int.reduceEq, reduceCtorEq, ↓reduceIte]
  repeat (refine And.intro (by omega) ?_)
  simp only [out, outs, out1, pur, and_self]
def trfC (l : List Int) : List Int := 99 :: 32 :: (l ++ [32, 116, 114, 97, 102, 102, 105, 99])
def trfS (l : List Int) : List Int := 115 :: 32 :: (l ++ [32, 116, 114, 97, 102, 102, 105, 99])
def preTrf (ds : List D) : Prop := ∃ (v : V) (b now l : List Int), ds = [.v v, .v (.str l)] ∧ Obj v b now ∧ Dig 256 l ∧ l.length ≤ 1000000
def F35 : List D → Out
  | [.v v, .v (.str l)] => .many [.v (.ints .u8 (labkey (getO v).2 (trfC l) (sumS (getO v).1))), .v (.ints .u8 (labkey (getO v).2 (trfS l) (sumS (getO v).1)))]
  | _ => bad
def s35 : Summ := sData [.r, .v] preTrf F35
theorem sumS_sec (b : List Int) : Sec (sumS b) := ⟨sum256_len _, sum256_dig _⟩
theorem trf_dig {l : List Int} (h : Dig 256 l) : Dig 256 (trfC l) ∧ Dig 256 (trfS l) := by
  have h2 : Dig 256 (l ++ [32, 116, 114, 97, 102, 102, 105, 99]) := Dig.append h (lit_dig rfl)
  refine ⟨fun x hx => ?_, fun x hx => ?_⟩ <;>
    (simp only [trfC, trfS, List.mem_cons] at hx
     rcases hx with rfl | rfl | hx
     · decide
     · decide
     · exact h2 x hx)
theorem ok35 {g : List Blk} [Ge gl g] : SumOK Tryd.prog g 35 s35 ∧ SumAbs s35 := by
  refine fsumA (l := [(59, s59), (55, s55)]) mixed gl_plain rfl Tryd.func35 comp35 compR35 nt35 (by simp only [List.mem_cons, List.not_mem_nil, or_false, forall_eq_or_imp, forall_eq]; exact ⟨ok59, ok55⟩) fun ds ⟨v, b, now, l, hd, ho, hl, hll⟩ hA => ?_
  subst hd
  have ho' := ho
  have hg := getO_obj ho
  obtain ⟨c, rfl, hc, hf, hbl, hn⟩ := ho
  have hsec := sumS_sec b
  obtain ⟨s, hs⟩ : ∃ s, sumS b = s := ⟨_, rfl⟩
  rw [hs] at hsec
  have sl := hsec.1
  have ps : spl [0, 0, 0, 0, 0, 0, 0, 0, 0, 0, 0, 0, 0, 0, 0, 0, 0, 0, 0, 0, 0, 0, 0, 0, 0, 0, 0, 0, 0, 0, 0, 0] 0 s = s := qda (by simp [sl])
  have ss : sub s 0 32 = s := sub_zero sl
  obtain ⟨A, hA1⟩ : ∃ k, labkey now (trfC l) s = k := ⟨_, rfl⟩
  obtain ⟨B, hB⟩ : ∃ k, labkey now (trfS l) s = k := ⟨_, rfl⟩
  have lA : A.length = 32 := by rw [← hA1]; exact (labkey_sec _ _ _).1
  have lB : B.length = 32 := by rw [← hB]; exact (labkey_sec _ _ _).1
  have pA : spl [0, 0, 0, 0, 0, 0, 0, 0, 0, 0, 0, 0, 0, 0, 0, 0, 0, 0, 0, 0, 0, 0, 0, 0, 0, 0, 0, 0, 0, 0, 0, 0] 0 A = A := qda (by simp [lA])
  have pB : spl [0, 0, 0, 0, 0, 0, 0, 0, 0, 0, 0, 0, 0, 0, 0, 0, 0, 0, 0, 0, 0, 0, 0, 0, 0, 0, 0, 0, 0, 0, 0, 0] 0 B = B := qda (by simp [lB])
  have sA : sub A 0 32 = A := sub_zero lA
  have sB : sub B 0 32 = B := sub_zero lB
  have q1 : preLog0 [.v (.rpc (csS c now) 0), .v .nils] := ⟨_, b, now, rfl, ho'⟩
  have q2 : preDer [.v (.rpc (csS c now) 0), .v (.str (trfC l)), .v (.ints .u8 s)] := ⟨_, b, now, _, _, rfl, ho', (trf_dig hl).1, hsec⟩
  have q3 : preDer [.v (.rpc (csS c now) 0), .v (.str (trfS l)), .v (.ints .u8 s)] := ⟨_, b, now, _, _, rfl, ho', (trf_dig hl).2, hsec⟩
  have f1 : F59 [.v (.rpc (csS c now) 0), .v .nils] = .one (.v (.ints .u8 s)) := by
    show Out.one (.v (.ints .u8 (sumS (getO (.rpc (csS c now) 0)).1))) = _
    rw [hg, hs]
  have f2 : F55 [.v (.rpc (csS c now) 0), .v (.str (trfC l)), .v (.ints .u8 s)] = .one (.v (.ints .u8 A)) := by
    show Out.one (.v (.ints .u8 (labkey (getO (.rpc (csS c now) 0)).2 (trfC l) s))) = _
    rw [hg, hA1]
  have f3 : F55 [.v (.rpc (csS c now) 0), .v (.str (trfS l)), .v (.ints .u8 s)] = .one (.v (.ints .u8 B)) := by
    show Out.one (.v (.ints .u8 (labkey (getO (.rpc (csS c now) 0)).2 (trfS l) s))) = _
    rw [hg, hB]
  have hF : F35 [.v (.rpc (csS c now) 0), .v (.str l)] = .many [.v (.ints .u8 A), .v (.ints .u8 B)] := by
    show Out.many [.v (.ints .u8 (labkey (getO (.rpc (csS c now) 0)).2 (trfC l) (sumS (getO (.rpc (csS c now) 0)).1))), .v (.ints .u8 (labkey (getO (.rpc (csS c now) 0)).2 (trfS l) (sumS (getO (.rpc (csS c now) 0)).1)))] = _
    rw [hg, hs, hA1, hB]
  obtain ⟨cs, hcs⟩ : ∃ cs, csS c now = cs := ⟨_, rfl⟩
  rw [hcs] at q1 q2 q3 f1 f2 f3 hF
  simp only [trfC, trfS] at q2 q3 f2 f3
  have hp : pursR cs = true := by
    rw [← hcs]
    have : ∀ xs : List Int, pursR (xs.map (V.int .u8)) = true := fun xs => by
      induction xs with
      | nil => rfl
      | cons x xs ih => simpa [pursR, purR] using ih
    rcases hc with rfl | ⟨xs, rfl, hx⟩ <;> simp [purR, pursR, csS, this]
  simp only [hcs, s59, s55]
  simp only [ir35, rs35, gl, hF, hp, q1, q2, q3, f1, f2, f3, sl, ps, ss, lA, lB, pA, pB, sA, sB, sub_zero, qda, qai, List.length_cons, List.length_nil, Nat.reduceAdd, Nat.le_refl, Nat.reduceLeDiff, Nat.reduceLT, true_and, and_true, ↓evA, evB, evs, evp, mkB, repB, blen, ↓retQ, res, resAll, resOne, kill, apartOk, exp, injV, injB, pur, purs, purR, pursR, List.reduceReplicate, Nat.reduceAdd, Nat.reduceMul, Nat.reduceSub, Nat.reduceEqDiff, Nat.reduceLT, Int.reduceToNat, Int.reduceLE, Int.reduceLT, Int.reduceEq, reduceCtorEq, ↓reduceIte]
  repeat (refine And.intro (by omega) ?_)
  simp only [out, outs, out1, pur, and_self]
end Am
set_option linter.unusedSimpArgs false
set_option linter.unusedVariables false
set_option maxRecDepth 20000
namespace Am
open Go.Proofs
/-! ### Finished; the reference's shadow -/
def lfin : List Int := [102, 105, 110, 105, 115, 104, 101, 100]
def finS (s m : List Int) : List Int := hmac (ex s lfin 32) m
def preSS (ds : List D) : Prop := ∃ s m : List Int, ds = [.v (.ints .u8 s), .v (.ints .u8 m)] ∧ Sec s ∧ Sec m
def F26 : List D → Out
  | [.v (.ints _ s), .v (.ints _ m)] => .one (.v (.ints .u8 (finS s m)))
  | _ => bad
def s26 : Summ := sData [.v, .v] preSS F26
theorem ok26 {g : List Blk} [Ge gl g] : SumOK Tryd.prog g 26 s26 ∧ SumAbs s26 := by
  refine fsumA (l := [(40, s40), (54, s54)]) mixed gl_plain rfl Tryd.func26 comp26 compR26 nt26 (by simp only [List.mem_cons, List.not_mem_nil, or_false, forall_eq_or_imp, forall_eq]; exact ⟨ok40, ok54⟩) fun ds ⟨s, m, hd, hs, hm⟩ hA => ?_
  subst hd
  have hsl := hs.1
  have hml := hm.1
  have ss : sub s 0 32 = s := sub_zero hsl
  have sm : sub m 0 32 = m := sub_zero hml
  have q1 : pre40 [.v (.ints .u8 s), .v (.str lfin), .s .u8 []] := ⟨_, _, _, rfl, hs.2, hsl, lit_dig rfl, fun x hx => by simp at hx⟩
  have k1 : labkey s lfin [] = ex s lfin 32 := by rw [labkey, if_neg (by decide)]; rfl
  have hF : F26 [.v (.ints .u8 s), .v (.ints .u8 m)] = .one (.v (.ints .u8 (hmac (ex s lfin 32) m))) := rfl
  obtain ⟨k, hk⟩ : ∃ k, ex s lfin 32 = k := ⟨_, rfl⟩
  have kl : k.length = 32 := by rw [← hk, ex_dig]
  have kd : Dig 256 k := by rw [← hk]; exact expand_dig _ _ _
  rw [hk] at k1 hF
  have pk : spl [0, 0, 0, 0, 0, 0, 0, 0, 0, 0, 0, 0, 0, 0, 0, 0, 0, 0, 0, 0, 0, 0, 0, 0, 0, 0, 0, 0, 0, 0, 0, 0] 0 k = k := qda (by simp [kl])
  have sk : sub k 0 32 = k := sub_zero kl
  have q2 : pre54 [.s .u8 k, .v (.rcs 1 1 [.rsl 1 32 .u8 m])] := ⟨k, [.rsl 1 32 .u8 m], rfl, kd, by omega, parts_cons (part_rsl' hm.2 (by omega)) parts_nil, by simp [flat]; omega, by simp⟩
  have e1 : hmac k (flat [.rsl 1 32 .u8 m]) = hmac k m := by simp [flat]
  obtain ⟨r, hr⟩ : ∃ r, hmac k m = r := ⟨_, rfl⟩
  have rl : r.length = 32 := by rw [← hr]; exact hmac_len _ _
  have pr : spl [0, 0, 0, 0, 0, 0, 0, 0, 0, 0, 0, 0, 0, 0, 0, 0, 0, 0, 0, 0, 0, 0, 0, 0, 0, 0, 0, 0, 0, 0, 0, 0] 0 r = r := qda (by simp [rl])
  have sr : sub r 0 32 = r := sub_zero rl
  rw [hr] at e1 hF
  simp only [lfin] at q1 k1
  simp only [s40, s54]
  simp only [ir26, rs26, gl, hF, hsl, hml, ss, sm, q1, k1, kl, pk, sk, q2, e1, rl, pr, sr, s40, s54, F40, F54, sub_zero, qda, qai, List.length_cons, List.length_nil, Nat.reduceAdd, Nat.le_refl, Nat.reduceLeDiff, Nat.reduceLT, true_and, and_true, ↓evA, evB, evs, evp, mkB, repB, blen, ↓retQ, res, resAll, resOne, kill, apartOk, exp, injV, injB, pur, purs, purR, pursR, List.reduceReplicate, Nat.reduceAdd, Nat.reduceMul, Nat.reduceSub, Nat.reduceEqDiff, Nat.reduceLT, Int.reduceToNat, Int.reduceLE, Int.reduceLT, Int.reduceEq, reduceCtorEq, ↓reduceIte]
  repeat (refine And.intro (by omega) ?_)
  simp only [out, outs, out1, pur, and_self]
def preBeg (ds : List D) : Prop := ∃ b : List Int, ds = [.s .u8 b] ∧ Dig 256 b ∧ b.length ≤ 549755813888
def F29 : List D → Out
  | [.s _ b] => .one (.v (.ints .u8 (hmac zz (pskOf b))))
  | _ => bad
def s29 : Summ := sData [.s .u8] preBeg F29
theorem ok29 {g : List Blk} [Ge gl1 g] : SumOK Tryd.prog g 29 s29 ∧ SumAbs s29 := by
  refine fsumA (l := [(15, s15)]) mixed gl1_plain rfl Tryd.func29 comp29 compR29 nt29 (by simp only [List.mem_cons, List.not_mem_nil, or_false, forall_eq]; exact ok15) fun ds ⟨b, hd, hb, hbl⟩ hA => ?_
  subst hd
  have sz : sub zz 0 32 = zz := rfl
  have sb := qdc b
  have main : ∀ b : List Int, Dig 256 b → b.length ≤ 549755813888 → pre15 [.s .u8 zz, .s .u8 b] := fun b hb hl => ⟨_, _, rfl, zz_dig, by decide, hb, hl⟩
  simp only [s15]
  by_cases h0 : b.length = 0
  · have hF : F29 [.s .u8 b] = .one (.v (.ints .u8 (hmac zz zz))) := by
      show Out.one (.v (.ints .u8 (hmac zz (pskOf b)))) = _
      rw [pskOf, if_pos h0]
    have q := main zz zz_dig (by decide)
    obtain ⟨r, hr⟩ : ∃ r, hmac zz zz = r := ⟨_, rfl⟩
    have rl : r.length = 32 := by rw [← hr]; exact hmac_len _ _
    have pr : spl [0, 0, 0, 0, 0, 0, 0, 0, 0, 0, 0, 0, 0, 0, 0, 0, 0, 0, 0, 0, 0, 0, 0, 0, 0, 0, 0, 0, 0, 0, 0, 0] 0 r = r := qda (by simp [rl])
    have sr : sub r 0 32 = r := sub_zero rl
    rw [hr] at hF
    have c1 : (b.length : Int) = 0 := by omega
    simp only [zz, List.reduceReplicate] at q hr sz
    simp only [ir29, rs29, gl1, hF, c1, sz, sb, q, hr, rl, pr, sr, s15, F15, sub_zero, qda, qai, List.length_cons, List.length_nil, Nat.reduceAdd, Nat.le_refl, Nat.reduceLeDiff, Nat.reduceLT, true_and, and_true, ↓evA, evB, evs, evp, mkB, repB, blen, ↓retQ, res, resAll, resOne, kill, apartOk, exp, injV, injB, pur, purs, purR, pursR, List.reduceReplicate, Nat.reduceAdd, Nat.reduceMul, Nat.reduceSub, Nat.reduceEqDiff, Nat.reduceLT, Int.reduceToNat, Int.reduceLE, Int.reduceLT, Int.reduceEq, reduceCtorEq, ↓reduceIte]
    repeat (refine And.intro (by omega) ?_)
    simp only [out, outs, out1, pur, and_self]
  · have hF : F29 [.s .u8 b] = .one (.v (.ints .u8 (hmac zz b))) := by
      show Out.one (.v (.ints .u8 (hmac zz (pskOf b)))) = _
      rw [pskOf, if_neg h0]
    have q := main b hb hbl
    obtain ⟨r, hr⟩ : ∃ r, hmac zz b = r := ⟨_, rfl⟩
    have rl : r.length = 32 := by rw [← hr]; exact hmac_len _ _
    have pr : spl [0, 0, 0, 0, 0, 0, 0, 0, 0, 0, 0, 0, 0, 0, 0, 0, 0, 0, 0, 0, 0, 0, 0, 0, 0, 0, 0, 0, 0, 0, 0, 0] 0 r = r := qda (by simp [rl])
    have sr : sub r 0 32 = r := sub_zero rl
    rw [hr] at hF
    have c1 : ¬ (b.length : Int) = 0 := by omega
    simp only [zz, List.reduceReplicate] at q hr sz
    simp only [ir29, rs29, gl1, hF, c1, sz, sb, q, hr, rl, pr, sr, s15, F15, sub_zero, qda, qai, List.length_cons, List.length_nil, Nat.reduceAdd, Nat.le_refl, Nat.reduceLeDiff, Nat.reduceLT, true_and, and_true, ↓evA, evB, evs, evp, mkB, repB, blen, ↓retQ, res, resAll, resOne, kill, apartOk, exp, injV, injB, pur, purs, purR, pursR, List.reduceReplicate, Nat.reduceAdd, Nat.reduceMul, Nat.reduceSub, Nat.reduceEqDiff, Nat.reduceLT, Int.reduceToNat, Int.reduceLE, Int.reduceLT, Int.reduceEq, reduceCtorEq, ↓reduceIte]
    repeat (refine And.intro (by omega) ?_)
    simp only [out, outs, out1, pur, and_self]
def drv (s l c : List Int) : List Int := expand s (labinfo l c 32) 32
def preDrv (ds : List D) : Prop := ∃ s l c : List Int, ds = [.v (.ints .u8 s), .v (.str l), .s .u8 c] ∧ Sec s ∧ Dig 256 l ∧ l.length ≤ 1000000 ∧ Dig 256 c ∧ c.length ≤ 1000000
def F32 : List D → Out
  | [.v (.ints _ s), .v (.str l), .s _ c] => .one (.v (.ints .u8 (drv s l c)))
  | _ => bad
def s32 : Summ := sData [.v, .v, .s .u8] preDrv F32
theorem ok32 {g : List Blk} [Ge gl1 g] : SumOK Tryd.prog g 32 s32 ∧ SumAbs s32 := by
  refine fsumA (l := [(17, s17), (16, s16)]) mixed gl1_plain rfl Tryd.func32 comp32 compR32 nt32 (by simp only [List.mem_cons, List.not_mem_nil, or_false, forall_eq_or_imp, forall_eq]; exact ⟨ok17, ok16⟩) fun ds ⟨s, l, c, hd, hs, hl, hll, hc, hcl⟩ hA => ?_
  subst hd
  have hsl := hs.1
  have ss : sub s 0 32 = s := sub_zero hsl
  have sc := qdc c
  have q1 : pre17 [.v (.str l), .s .u8 c, .v (.int .i64 32)] := ⟨l, c, 32, rfl, hl, hll, hc, by omega, by decide⟩
  have hil : (labinfo l c 32).length ≤ 274877906944 := by rw [labinfo_len]; omega
  have hid : Dig 256 (labinfo l c 32) := labinfo_dig hl hc
  have hF : F32 [.v (.ints .u8 s), .v (.str l), .s .u8 c] = .one (.v (.ints .u8 (expand s (labinfo l c 32) 32))) := rfl
  obtain ⟨i, hi⟩ : ∃ i, labinfo l c 32 = i := ⟨_, rfl⟩
  rw [hi] at hil hid hF
  have si := qdc i
  have q2 : pre16 [.v (.ints .u8 s), .s .u8 i, .v (.int .i64 32)] := ⟨s, i, 32, rfl, hs.2, hsl, hid, hil, by decide⟩
  obtain ⟨r, hr⟩ : ∃ r, expand s i 32 = r := ⟨_, rfl⟩
  have rl : r.length = 32 := by rw [← hr, expand_len]
  rw [hr] at hF
  have pr : spl [0, 0, 0, 0, 0, 0, 0, 0, 0, 0, 0, 0, 0, 0, 0, 0, 0, 0, 0, 0, 0, 0, 0, 0, 0, 0, 0, 0, 0, 0, 0, 0] 0 r = r := qda (by simp [rl])
  have sr : sub r 0 32 = r := sub_zero rl
  have tr : r.take 32 = r := List.take_of_length_le (by omega)
  have t32 : (32 : Int).toNat = 32 := rfl
  simp only [s17, s16]
  simp only [ir32, rs32, gl1, hF, hsl, ss, sc, q1, hi, si, q2, t32, hr, rl, pr, sr, tr, Nat.min_self, s17, s16, F17, F16, sub_zero, qda, qai, List.length_cons, List.length_nil, Nat.reduceAdd, Nat.le_refl, Nat.reduceLeDiff, Nat.reduceLT, true_and, and_true, ↓evA, evB, evs, evp, mkB, repB, blen, ↓retQ, res, resAll, resOne, kill, apartOk, exp, injV, injB, pur, purs, purR, pursR, List.reduceReplicate, Nat.reduceAdd, Nat.reduceMul, Nat.reduceSub, Nat.reduceEqDiff, Nat.reduceLT, Int.reduceToNat, Int.reduceLE, Int.reduceLT, Int.reduceEq, reduceCtorEq, ↓reduceIte]
  repeat (refine And.intro (by omega) ?_)
  simp only [out, outs, out1, pur, and_self]
def F27 : List D → Out
  | [.v (.ints _ s), .v (.ints _ m)] => .one (.v (.ints .u8 (finS s m)))
  | _ => bad
def s27 : Summ := sData [.v, .v] preSS F27
theorem ok27 {g : List Blk} [Ge gl1 g] : SumOK Tryd.prog g 27 s27 ∧ SumAbs s27 := by
  refine fsumA (l := [(32, s32), (15, s15)]) mixed gl1_plain rfl Tryd.func27 comp27 compR27 nt27 (by simp only [List.mem_cons, List.not_mem_nil, or_false, forall_eq_or_imp, forall_eq]; exact ⟨ok32, ok15⟩) fun ds ⟨s, m, hd, hs, hm⟩ hA => ?_
  subst hd
  have hsl := hs.1
  have hml := hm.1
  have ss : sub s 0 32 = s := sub_zero hsl
  have sm : sub m 0 32 = m := sub_zero hml
  have q1 : preDrv [.v (.ints .u8 s), .v (.str lfin), .s .u8 []] := ⟨_, _, _, rfl, hs, lit_dig rfl, by decide, fun x hx => by simp at hx, by decide⟩
  have hF : F27 [.v (.ints .u8 s), .v (.ints .u8 m)] = .one (.v (.ints .u8 (hmac (ex s lfin 32) m))) := rfl
  have k1 : drv s lfin [] = ex s lfin 32 := rfl
  obtain ⟨k, hk⟩ : ∃ k, ex s lfin 32 = k := ⟨_, rfl⟩
  have kl : k.length = 32 := by rw [← hk, ex_dig]
  have kd : Dig 256 k := by rw [← hk]; exact expand_dig _ _ _
  rw [hk] at k1 hF
  have pk : spl [0, 0, 0, 0, 0, 0, 0, 0, 0, 0, 0, 0, 0, 0, 0, 0, 0, 0, 0, 0, 0, 0, 0, 0, 0, 0, 0, 0, 0, 0, 0, 0] 0 k = k := qda (by simp [kl])
  have sk : sub k 0 32 = k := sub_zero kl
  have q2 : pre15 [.s .u8 k, .s .u8 m] := ⟨_, _, rfl, kd, by omega, hm.2, by omega⟩
  obtain ⟨r, hr⟩ : ∃ r, hmac k m = r := ⟨_, rfl⟩
  have rl : r.length = 32 := by rw [← hr]; exact hmac_len _ _
  have pr : spl [0, 0, 0, 0, 0, 0, 0, 0, 0, 0, 0, 0, 0, 0, 0, 0, 0, 0, 0, 0, 0, 0, 0, 0, 0, 0, 0, 0, 0, 0, 0, 0] 0 r = r := qda (by simp [rl])
  have sr : sub r 0 32 = r := sub_zero rl
  rw [hr] at hF
  simp only [lfin] at q1 k1
  simp only [s32, s15]
  simp only [ir27, rs27, gl1, hF, hsl, hml, ss, sm, q1, k1, kl, pk, sk, q2, hr, rl, pr, sr, s32, s15, F32, F15, sub_zero, qda, qai, List.length_cons, List.length_nil, Nat.reduceAdd, Nat.le_refl, Nat.reduceLeDiff, Nat.reduceLT, true_and, and_true, ↓evA, evB, evs, evp, mkB, repB, blen, ↓retQ, res, resAll, resOne, kill, apartOk, exp, injV, injB, pur, purs, purR, pursR, List.reduceReplicate, Nat.reduceAdd, Nat.reduceMul, Nat.reduceSub, Nat.reduceEqDiff, Nat.reduceLT, Int.reduceToNat, Int.reduceLE, Int.reduceLT, Int.reduceEq, reduceCtorEq, ↓reduceIte]
  repeat (refine And.intro (by omega) ?_)
  simp only [out, outs, out1, pur, and_self]
/-! ### Awake, SecretsFinished -/
def FTrue15 : List D → Out
  | _ => .one (.v (.bool true))
def lhs2 : List Int := [104, 115]
def e0 : List Int := hmac zz zz
theorem aw15 : (getI e0 0 = 51 ∧ getI e0 1 = 173) ∧ getI e0 2 = 10 ∧ getI e0 3 = 28 := by decide +kernel
theorem aw15b : decide (labkey e0 (trfC lhs2) (sumS []) = labkey e0 (trfS lhs2) (sumS [])) = false := by decide +kernel
end Am
set_option linter.unusedSimpArgs false
set_option linter.unusedVariables false
set_option maxRecDepth 20000
namespace Am
open Go.Proofs
def F25 : List D → Out
  | _ => .one (.v (.bool true))
def pre25 (ds : List D) : Prop := ds = []
def s25 : Summ := sData [] pre25 F25
set_option maxHeartbeats 4000000 in
theorem ok25 {g : List Blk} [Ge gl1 g] : SumOK Tryd.prog g 25 s25 ∧ SumAbs s25 := by
  refine fsumA (l := [(28, s28), (35, s35), (31, s31), (29, s29), (32, s32)]) mixed gl1_plain rfl Tryd.func25 comp25 compR25 nt25 (by simp only [List.mem_cons, List.not_mem_nil, or_false, forall_eq_or_imp, forall_eq]; exact ⟨ok28, ok35, ok31, ok29, ok32⟩) fun ds hd hA => ?_
  rw [hd]
  have hE : Sec e0 := ⟨hmac_len _ _, hmac_dig _ _⟩
  have q1 : preNew [.v .nils] := rfl
  have f1 : F28 [.v .nils] = ([], .one (.p (fsS [] e0))) := rfl
  have hob : Obj (.rpc (csS (.rsl 1 0 .u8 []) e0) 0) [] e0 := ⟨_, rfl, part_rsl' (fun x hx => by simp at hx) rfl, rfl, by decide, hE⟩
  have hg := getO_obj hob
  have q2 : preTrf [.v (.rpc (csS (.rsl 1 0 .u8 []) e0) 0), .v (.str lhs2)] := ⟨_, [], e0, _, rfl, hob, lit_dig rfl, by decide⟩
  have q3 : preBeg [.s .u8 []] := ⟨_, rfl, fun x hx => by simp at hx, by decide⟩
  have q4 : pre31 [.s .u8 []] := ⟨_, rfl, fun x hx => by simp at hx, by decide⟩
  have f3 : F29 [.s .u8 []] = .one (.v (.ints .u8 e0)) := rfl
  have f4 : F31 [.s .u8 []] = .one (.v (.ints .u8 (sumS []))) := rfl
  obtain ⟨⟨a1, a2⟩, a3, a4⟩ := aw15
  have ab := aw15b
  have hS := sumS_sec []
  obtain ⟨S, hSS⟩ : ∃ S, sumS [] = S := ⟨_, rfl⟩
  rw [hSS] at hS f4 ab
  have f2 : F35 [.v (.rpc (csS (.rsl 1 0 .u8 []) e0) 0), .v (.str lhs2)] = .many [.v (.ints .u8 (labkey e0 (trfC lhs2) S)), .v (.ints .u8 (labkey e0 (trfS lhs2) S))] := by
    show Out.many [.v (.ints .u8 (labkey (getO (.rpc (csS (.rsl 1 0 .u8 []) e0) 0)).2 (trfC lhs2) (sumS (getO (.rpc (csS (.rsl 1 0 .u8 []) e0) 0)).1))), .v (.ints .u8 (labkey (getO (.rpc (csS (.rsl 1 0 .u8 []) e0) 0)).2 (trfS lhs2) (sumS (getO (.rpc (csS (.rsl 1 0 .u8 []) e0) 0)).1)))] = _
    rw [hg, hSS]
  obtain ⟨e, he⟩ : ∃ e, e0 = e := ⟨_, rfl⟩
  rw [he] at hE f1 q2 f2 f3 a1 a2 a3 a4 ab
  have el := hE.1
  have Sl := hS.1
  have hL : ¬ Lng (trfC lhs2) S := fun h => h.elim (fun h => absurd h (by decide)) (fun h => by rw [Sl] at h; omega)
  have k1 : labkey e (trfC lhs2) S = drv e (trfC lhs2) S := by rw [labkey, if_neg hL]; rfl
  obtain ⟨A, hA1⟩ : ∃ k, labkey e (trfC lhs2) S = k := ⟨_, rfl⟩
  obtain ⟨B, hB⟩ : ∃ k, labkey e (trfS lhs2) S = k := ⟨_, rfl⟩
  have lA : A.length = 32 := by rw [← hA1]; exact (labkey_sec _ _ _).1
  have lB : B.length = 32 := by rw [← hB]; exact (labkey_sec _ _ _).1
  rw [hA1] at f2 k1 ab
  rw [hB] at f2 ab
  have nab : ¬ A = B := of_decide_eq_false ab
  have z : ∀ {Z : List Int}, Z.length = 32 → spl [0, 0, 0, 0, 0, 0, 0, 0, 0, 0, 0, 0, 0, 0, 0, 0, 0, 0, 0, 0, 0, 0, 0, 0, 0, 0, 0, 0, 0, 0, 0, 0] 0 Z = Z := fun h => qda (by simp [h])
  have pA := z lA
  have pB := z lB
  have pe := z el
  have pS := z Sl
  have sA : sub A 0 32 = A := sub_zero lA
  have sB : sub B 0 32 = B := sub_zero lB
  have se : sub e 0 32 = e := sub_zero el
  have sS : sub S 0 32 = S := sub_zero Sl
  have q5 : preDrv [.v (.ints .u8 e), .v (.str (trfC lhs2)), .s .u8 S] := ⟨_, _, _, rfl, hE, (trf_dig (lit_dig rfl)).1, by decide, hS.2, by omega⟩
  have s0 : sub ([] : List Int) 0 0 = [] := rfl
  have k1' := k1.symm
  simp only [csS, lhs2, trfC, List.cons_append, List.nil_append] at q2 f2 q5 k1'
  simp only [s28, s35, s31, s29, s32]
  simp only [ir25, rs25, gl1, F25, q1, f1, fsS, injs_ints, blks_ints, cnts_ints, ↓frzs_ints, List.length_nil, q2, f2, q3, f3, q4, f4, q5, F32, k1', nab, a1, a2, a3, a4, lA, lB, el, Sl, pA, pB, pe, pS, sA, sB, se, sS, s0, eq_self, sub_zero, qda, qai, List.length_cons, List.length_nil, Nat.reduceAdd, Nat.le_refl, Nat.reduceLeDiff, Nat.reduceLT, true_and, and_true, ↓qaq, ↓qan, ↓qao, ↓qap, ↓qam, ↓qaj, ↓qak, ↓qal, idsEs, idsE, idss, killB, effE, stA, deads, nwA, cntA, cnts, cnt, valO, blkO, inj, injs, blk, blks, outA, outR, outE, outEs, sids, List.nodup_cons, List.nodup_nil, List.not_mem_nil, List.mem_cons, or_false, false_or, not_or, ↓evA, evB, evs, evp, mkB, repB, blen, ↓retQ, res, resAll, resOne, kill, apartOk, exp, injV, injB, pur, purs, purR, pursR, List.reduceReplicate, Nat.reduceAdd, Nat.reduceMul, Nat.reduceSub, Nat.reduceEqDiff, Nat.reduceLT, Int.reduceToNat, Int.reduceLE, Int.reduceLT, Int.reduceEq, reduceCtorEq, ↓reduceIte]
  repeat (refine And.intro (by omega) ?_)
  simp only [out, outs, out1, pur, and_self]
theorem lawSecretsFinished : ∀ ds, preSS ds → Does Tryd.prog gl1 8 (injV ds 4) (gl1 ++ injB true ds) (out (4 + (injB true ds).length) (FTrue15 ds)) := by
  refine fdoesA (l := [(25, s25), (26, s26), (27, s27)]) mixed gl1_plain rfl Tryd.func8 comp8 compR8 nt8 (by simp only [List.mem_cons, List.not_mem_nil, or_false, forall_eq_or_imp, forall_eq]; exact ⟨ok25, ok26, ok27⟩) fun ds ⟨s, m, hd, hs, hm⟩ hA => ?_
  subst hd
  have hsl := hs.1
  have hml := hm.1
  have ss : sub s 0 32 = s := sub_zero hsl
  have sm : sub m 0 32 = m := sub_zero hml
  have q1 : preSS [.v (.ints .u8 s), .v (.ints .u8 m)] := ⟨_, _, rfl, hs, hm⟩
  have pA : pre25 [] := rfl
  have rl : (finS s m).length = 32 := hmac_len _ _
  simp only [s25, s26, s27]
  simp only [ir8, rs8, gl1, FTrue15, pA, hsl, hml, ss, sm, q1, rl, eq_self, s25, s26, s27, F25, F26, F27, sub_zero, qda, qai, List.length_cons, List.length_nil, Nat.reduceAdd, Nat.le_refl, Nat.reduceLeDiff, Nat.reduceLT, true_and, and_true, ↓evA, evB, evs, evp, mkB, repB, blen, ↓retQ, res, resAll, resOne, kill, apartOk, exp, injV, injB, pur, purs, purR, pursR, List.reduceReplicate, Nat.reduceAdd, Nat.reduceMul, Nat.reduceSub, Nat.reduceEqDiff, Nat.reduceLT, Int.reduceToNat, Int.reduceLE, Int.reduceLT, Int.reduceEq, reduceCtorEq, ↓reduceIte]
  repeat (refine And.intro (by omega) ?_)
  simp only [out, outs, out1, pur, and_self]
end Am
