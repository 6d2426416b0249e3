/-
Working texts: contracts of functions, and the numbers behind them.
-/
import Derived.Test.YtcefobjfkmfmiaaDoorGkA
import Derived.Test.YtcefobjfkmfmiaaDoorIrF
import Derived.Test.YtcefobjfkmfmiaaDoorAmLoop
set_option linter.unusedSimpArgs false
set_option linter.unusedVariables false
set_option linter.unusedSectionVars false
set_option linter.unusedSimpArgs false
set_option linter.unusedVariables false
set_option maxRecDepth 20000
namespace Am
open Go.Proofs
/-! ### A schedule: the messages so far and the secret -/
def fsS (b now : List Int) : List E := .s 1 b.length .u8 b :: now.map (fun x => .v (.int .u8 x))
def csS (c : V) (now : List Int) : List V := c :: now.map (V.int .u8)
theorem injs_ints {k : Go.IntKind} : ∀ {xs : List Int} {n : Nat}, injs (xs.map fun x => E.v (.int k x)) n = xs.map (V.int k)
  | [], _ => rfl
  | x :: xs, n => by simp only [List.map_cons, injs, inj, cnt, Nat.add_zero, injs_ints (xs := xs)]
theorem blks_ints {k : Go.IntKind} : ∀ {xs : List Int} {n : Nat}, blks (xs.map fun x => E.v (.int k x)) n = []
  | [], _ => rfl
  | x :: xs, n => by simp only [List.map_cons, blks, blk, cnt, Nat.add_zero, List.nil_append, blks_ints (xs := xs)]
theorem cnts_ints {k : Go.IntKind} : ∀ {xs : List Int}, cnts (xs.map fun x => E.v (.int k x)) = 0
  | [] => rfl
  | x :: xs => by simp only [List.map_cons, cnts, cnt, Nat.zero_add, cnts_ints (xs := xs)]
theorem outEs_ints {hp : List Blk} {k : Go.IntKind} {used : List Nat} {K : List Nat → Prop} : ∀ {xs : List Int}, K used → outEs hp (xs.map fun x => E.v (.int k x)) (xs.map (V.int k)) used K
  | [], h => by simpa [outEs] using h
  | x :: xs, h => by
    simp only [List.map_cons, outEs, outE]
    exact ⟨by simp [pur], outEs_ints h⟩
theorem frzs_ints {hp : List Blk} {d : Nat} {k : Go.IntKind} : ∀ {xs : List Int} {J : List V → Prop}, frzs (frz hp (d + 1)) (xs.map (V.int k)) J = J (xs.map (V.int k))
  | [], J => by rw [List.map_nil, frzs]
  | x :: xs, J => by rw [List.map_cons, frzs, qbr, frzs_ints (xs := xs)]
def zz : List Int := List.replicate 32 0
def pskOf (b : List Int) : List Int := if b.length = 0 then zz else b
def preNew (ds : List E) : Prop := ds = [.v .nils]
def F21 : List E → List (List E) × EOut
  | [.v v] => ([], .one (.p (fsS [] (hmac zz (pskOf (flat [v]))))))
  | _ => ([], .one (.v .nilp))
def s21 : Summ := sEff [.r] preNew F21
theorem zz_dig : Dig 256 zz := fun x hx => by rw [(List.mem_replicate.1 hx).2]; decide
theorem ok21 {g : List Blk} [Ge gl g] : SumOK Tryd.prog g 21 s21 ∧ SumAbs s21 := by
  refine esumA (l := [(39, s39)]) mixed gl_plain rfl Tryd.func21 comp21 compR21 nt21 (by simp only [List.mem_cons, List.not_mem_nil, or_false, forall_eq]; exact ok39) fun ds hd hA => ?_
  rw [hd]
  have sz : sub zz 0 32 = zz := rfl
  have hF : F21 [.v .nils] = ([], .one (.p (fsS [] (hmac zz zz)))) := rfl
  have q : pre39 [.s .u8 zz, .s .u8 zz] := ⟨_, _, rfl, zz_dig, by decide, zz_dig, by decide⟩
  have hm := hmac_len zz zz
  obtain ⟨h, hh⟩ : ∃ h, hmac zz zz = h := ⟨_, rfl⟩
  rw [hh] at hm hF
  have fin' : spl (V.nils :: List.replicate 32 (V.int .u8 0)) 1 (h.map (V.int .u8)) = .nils :: h.map (V.int .u8) := by simp [spl, hm]
  simp only [zz, List.reduceReplicate] at q hh sz fin'
  simp only [s39]
  simp only [ir21,rs21,gl,hF,sz,q,hh,hm,fin',s39,F39,List.length_map,qda,qc6,qaj,List.length_cons,List.length_nil,Nat.reduceAdd,Nat.le_refl,Nat.reduceLeDiff,Nat.reduceLT,true_and,and_true,↓qar,↓qao,↓qap,↓qaq,↓qan,↓qak,↓qal,↓qam,idsEs,idsE,idss,killB,effE,stA,deads,nwA,cntA,cnts,cnt,valO,blkO,inj,injs,blk,blks,outA,outR,outE,outEs,sids,List.nodup_cons,List.nodup_nil,List.not_mem_nil,List.mem_cons,or_false,false_or,not_or,↓qax,↓qay,↓qa0,↓qaz,↓qcs,↓qbj,↓qa1,↓qcl,↓qb3,↓qci,↓qcb,↓qce,↓qcf,↓qb4,↓qcd,↓qcj,↓qb5,↓qcg,↓qch,↓qb6,↓qcc,↓qca,↓qb9,↓qb8,↓qb7,↓qa5,↓qbc,↓qa6,↓qbd,↓qa7,↓qbe,↓qa8,↓qbf,↓qa9,↓qbg,↓qba,↓qbh,↓qbb,↓qbi,↓qb2,↓qck,↓qfc,↓qco,↓qcp,↓qcq,↓qcn,↓qcm,↓qbm,↓qbn,↓qb0,↓qbv,↓qbq,↓qbu,↓qbz,↓qbw,↓qby,↓qbx,↓qbr,↓qbp,↓qb1,↓qbs,↓qbt,↓qbo,↓qez,↓qey,↓qe3,↓qe5,↓qe4,↓qex,↓qew,↓qet,↓qeu,↓qe2,↓qe1,↓qe0,qc5,↓qeq,↓qer,↓qev,↓qc4,↓qc2,↓qc3,↓qe7,↓qe8,↓qe9,↓qe6,qaa,↓qes,↓qef,↓qeg,↓qfb,↓qfa,↓qei,↓qdk,↓qds,↓qd9,↓qea,↓qen,↓qeo,↓qdo,↓qdp,↓qdr,↓qdq,↓qdx,↓qep,↓qdv,↓qej,↓qdn,↓qed,↓qek,↓qel,↓qem,↓qd1,↓qd0,↓qd2,↓qd3,↓qd5,↓qdz,↓qd6,↓qd8,↓qd7,↓qdl,↓qdm,↓qdy,↓qaw,↓qdw,↓qee,↓qec,↓qdj,↓qeh,↓qeb,↓qd4,qav,List.drop_zero,Nat.sub_zero,qcy,qct,qcu,qdh,qat,qas,qaf,List.map_cons,List.map_nil,List.zip_cons_cons,List.zip_nil_right,List.zip_nil_left,qau,evs,evp,mkB,repB,blen,qae,qad,qac,qab,qc1,qc0,qdg,qdi,qde,qdf,qcx,qcz,qcv,qcw,↓qdc,↓qdb,↓qdd,↓qah,↓qag,↓qai,↓retQ,res,resAll,resOne,kill,apartOk,exp,injV,injB,pur,purs,purR,pursR,List.set_cons_zero,List.set_cons_succ,List.length_cons,List.length_nil,List.cons_append,List.nil_append,List.append_nil,List.append_assoc,List.length_append,List.reduceReplicate,Nat.reduceAdd,Nat.reduceMul,Nat.reduceSub,Nat.reduceEqDiff,Nat.reduceLT,Nat.zero_add,Nat.add_zero,Nat.mul_one,Int.reduceToNat,Int.toNat_natCast,Int.cast_ofNat_Int,Int.reduceLE,Int.reduceLT,Int.reduceEq,reduceCtorEq,↓reduceIte,Bool.true_eq_false,Bool.false_eq_true,Bool.not_true,Bool.not_false,true_and,and_true,and_assoc,qaj,sub1,qc8,qc7,qc9,List.length_replicate,Nat.le_refl,false_implies,true_implies,ne_eq,not_true_eq_false,not_false_eq_true,decide_true,decide_false,decide_eq_true_eq,decide_eq_false_iff_not,Bool.not_eq_true',Bool.not_eq_false']
  refine ⟨by decide, by decide, ?_⟩
  show outEs _ (.s 1 0 .u8 [] :: h.map (fun x => .v (.int .u8 x))) (.nils :: h.map (V.int .u8)) _ _
  rw [outEs, outE]
  exact ⟨⟨rfl, rfl⟩, outEs_ints trivial⟩
/-! ### What is asked of one -/
def Obj (v : V) (b now : List Int) : Prop := ∃ c : V, v = .rpc (csS c now) 0 ∧ Part c ∧ flat [c] = b ∧ b.length ≤ 549755813888 ∧ Sec now
def sumS (b : List Int) : List Int := sum256 (padded b 64)
def getO : V → List Int × List Int
  | .rpc (c :: r) _ => (flat [c], r.map fun | .int _ n => n | _ => 0)
  | _ => default
theorem getO_obj {v : V} {b now : List Int} (h : Obj v b now) : getO v = (b, now) := by
  obtain ⟨c, rfl, -, hf, -⟩ := h
  simp [getO, csS, hf, Function.comp_def]
def preLog0 (ds : List D) : Prop := ∃ (v : V) (b now : List Int), ds = [.v v, .v .nils] ∧ Obj v b now
def F46 : List D → Out
  | [.v v, _] => .one (.v (.ints .u8 (sumS (getO v).1)))
  | _ => bad
def s46 : Summ := sData [.r, .v] preLog0 F46
theorem ok46 {g : List Blk} [Ge gl g] : SumOK Tryd.prog g 46 s46 ∧ SumAbs s46 := by
  refine fsumA (l := [(43, s43)]) mixed gl_plain rfl Tryd.func46 comp46 compR46 nt46 (by simp only [List.mem_cons, List.not_mem_nil, or_false, forall_eq]; exact ok43) fun ds ⟨v, b, now, hd, ho⟩ hA => ?_
  subst hd
  have hg := getO_obj ho
  obtain ⟨c, rfl, hc, hf, hbl, hn⟩ := ho
  have hF : F46 [.v (.rpc (csS c now) 0), .v .nils] = .one (.v (.ints .u8 (sumS b))) := by
    show Out.one (.v (.ints .u8 (sumS (getO (.rpc (csS c now) 0)).1))) = _
    rw [hg]
  have q : preParts [.v (.rcs 1 1 [c])] := ⟨[c], rfl, parts_cons hc parts_nil, by rw [hf]; omega, by simp⟩
  have hs : sum256 (padded (flat [c]) 64) = sumS b := by rw [hf]; rfl
  have sl : (sumS b).length = 32 := sum256_len _
  have ps : spl [0, 0, 0, 0, 0, 0, 0, 0, 0, 0, 0, 0, 0, 0, 0, 0, 0, 0, 0, 0, 0, 0, 0, 0, 0, 0, 0, 0, 0, 0, 0, 0] 0 (sumS b) = sumS b := qc6 (by simp [sl])
  have ss : sub (sumS b) 0 32 = sumS b := qda sl
  simp only [csS] at hF
  simp only [s43]
  rcases hc with rfl | ⟨xs, rfl, hx⟩
  all_goals
    simp only [ir46,rs46,gl,hF,csS,q,hs,sl,ps,ss,s43,F43,qda,qc6,qaj,List.length_cons,List.length_nil,Nat.reduceAdd,Nat.le_refl,Nat.reduceLeDiff,Nat.reduceLT,true_and,and_true,↓qax,↓qay,↓qa0,↓qaz,↓qcs,↓qbj,↓qa1,↓qcl,↓qb3,↓qci,↓qcb,↓qce,↓qcf,↓qb4,↓qcd,↓qcj,↓qb5,↓qcg,↓qch,↓qb6,↓qcc,↓qca,↓qb9,↓qb8,↓qb7,↓qa5,↓qbc,↓qa6,↓qbd,↓qa7,↓qbe,↓qa8,↓qbf,↓qa9,↓qbg,↓qba,↓qbh,↓qbb,↓qbi,↓qb2,↓qck,↓qfc,↓qco,↓qcp,↓qcq,↓qcn,↓qcm,↓qbm,↓qbn,↓qb0,↓qbv,↓qbq,↓qbu,↓qbz,↓qbw,↓qby,↓qbx,↓qbr,↓qbp,↓qb1,↓qbs,↓qbt,↓qbo,↓qez,↓qey,↓qe3,↓qe5,↓qe4,↓qex,↓qew,↓qet,↓qeu,↓qe2,↓qe1,↓qe0,qc5,↓qeq,↓qer,↓qev,↓qc4,↓qc2,↓qc3,↓qe7,↓qe8,↓qe9,↓qe6,qaa,↓qes,↓qef,↓qeg,↓qfb,↓qfa,↓qei,↓qdk,↓qds,↓qd9,↓qea,↓qen,↓qeo,↓qdo,↓qdp,↓qdr,↓qdq,↓qdx,↓qep,↓qdv,↓qej,↓qdn,↓qed,↓qek,↓qel,↓qem,↓qd1,↓qd0,↓qd2,↓qd3,↓qd5,↓qdz,↓qd6,↓qd8,↓qd7,↓qdl,↓qdm,↓qdy,↓qaw,↓qdw,↓qee,↓qec,↓qdj,↓qeh,↓qeb,↓qd4,qav,List.drop_zero,Nat.sub_zero,qcy,qct,qcu,qdh,qat,qas,qaf,List.map_cons,List.map_nil,List.zip_cons_cons,List.zip_nil_right,List.zip_nil_left,qau,evs,evp,mkB,repB,blen,qae,qad,qac,qab,qc1,qc0,qdg,qdi,qde,qdf,qcx,qcz,qcv,qcw,↓qdc,↓qdb,↓qdd,↓qah,↓qag,↓qai,↓retQ,res,resAll,resOne,kill,apartOk,exp,injV,injB,pur,purs,purR,pursR,List.set_cons_zero,List.set_cons_succ,List.length_cons,List.length_nil,List.cons_append,List.nil_append,List.append_nil,List.append_assoc,List.length_append,List.reduceReplicate,Nat.reduceAdd,Nat.reduceMul,Nat.reduceSub,Nat.reduceEqDiff,Nat.reduceLT,Nat.zero_add,Nat.add_zero,Nat.mul_one,Int.reduceToNat,Int.toNat_natCast,Int.cast_ofNat_Int,Int.reduceLE,Int.reduceLT,Int.reduceEq,reduceCtorEq,↓reduceIte,Bool.true_eq_false,Bool.false_eq_true,Bool.not_true,Bool.not_false,true_and,and_true,and_assoc,qaj,sub1,qc8,qc7,qc9,List.length_replicate,Nat.le_refl,false_implies,true_implies,ne_eq,not_true_eq_false,not_false_eq_true,decide_true,decide_false,decide_eq_true_eq,decide_eq_false_iff_not,Bool.not_eq_true',Bool.not_eq_false']
    repeat (refine And.intro (by omega) ?_)
    simp only [out, outs, out1, pur, and_self]
def preDer (ds : List D) : Prop := ∃ (v : V) (b now l s : List Int), ds = [.v v, .v (.str l), .v (.ints .u8 s)] ∧ Obj v b now ∧ Dig 256 l ∧ Sec s
def F42 : List D → Out
  | [.v v, .v (.str l), .v (.ints _ s)] => .one (.v (.ints .u8 (labkey (getO v).2 l s)))
  | _ => bad
def s42 : Summ := sData [.r, .v, .v] preDer F42
theorem labkey_sec (s l c : List Int) : Sec (labkey s l c) := by
  unfold labkey; split
  · exact ⟨by simp, fun x hx => by rw [(List.mem_replicate.1 hx).2]; decide⟩
  · exact ⟨expand_len _ _ _, expand_dig _ _ _⟩
theorem ok42 {g : List Blk} [Ge gl g] : SumOK Tryd.prog g 42 s42 ∧ SumAbs s42 := by
  refine fsumA (l := [(40, s40)]) mixed gl_plain rfl Tryd.func42 comp42 compR42 nt42 (by simp only [List.mem_cons, List.not_mem_nil, or_false, forall_eq]; exact ok40) fun ds ⟨v, b, now, l, s, hd, ho, hl, hs⟩ hA => ?_
  subst hd
  have hg := getO_obj ho
  obtain ⟨c, rfl, hc, hf, hbl, hn⟩ := ho
  have hnl := hn.1
  have hsl := hs.1
  have hF : F42 [.v (.rpc (csS c now) 0), .v (.str l), .v (.ints .u8 s)] = .one (.v (.ints .u8 (labkey now l s))) := by
    show Out.one (.v (.ints .u8 (labkey (getO (.rpc (csS c now) 0)).2 l s))) = _
    rw [hg]
  have q : pre40 [.v (.ints .u8 now), .v (.str l), .s .u8 s] := ⟨_, _, _, rfl, hn.2, hnl, hl, hs.2⟩
  have e1 : sub (c :: now.map (V.int .u8)) 1 32 = now.map (V.int .u8) := by
    show (now.map (V.int .u8)).take 32 = _
    exact List.take_of_length_le (by simp [hnl])
  have e2 : agI (now.map (V.int .u8)) = .ints .u8 now := agI_ints (fun h => by rw [h] at hnl; cases hnl)
  have ss : sub s 0 32 = s := qda hsl
  obtain ⟨k, hk⟩ : ∃ k, labkey now l s = k := ⟨_, rfl⟩
  have kl : k.length = 32 := by rw [← hk]; exact (labkey_sec _ _ _).1
  have pk : spl [0, 0, 0, 0, 0, 0, 0, 0, 0, 0, 0, 0, 0, 0, 0, 0, 0, 0, 0, 0, 0, 0, 0, 0, 0, 0, 0, 0, 0, 0, 0, 0] 0 k = k := qc6 (by simp [kl])
  have sk : sub k 0 32 = k := qda kl
  simp only [csS] at hF
  rw [hk] at hF
  simp only [s40]
  simp only [ir42,rs42,gl,hF,csS,q,e1,e2,hnl,hsl,ss,hk,kl,pk,sk,List.length_map,s40,F40,qda,qc6,qaj,List.length_cons,List.length_nil,Nat.reduceAdd,Nat.le_refl,Nat.reduceLeDiff,Nat.reduceLT,true_and,and_true,↓qax,↓qay,↓qa0,↓qaz,↓qcs,↓qbj,↓qa1,↓qcl,↓qb3,↓qci,↓qcb,↓qce,↓qcf,↓qb4,↓qcd,↓qcj,↓qb5,↓qcg,↓qch,↓qb6,↓qcc,↓qca,↓qb9,↓qb8,↓qb7,↓qa5,↓qbc,↓qa6,↓qbd,↓qa7,↓qbe,↓qa8,↓qbf,↓qa9,↓qbg,↓qba,↓qbh,↓qbb,↓qbi,↓qb2,↓qck,↓qfc,↓qco,↓qcp,↓qcq,↓qcn,↓qcm,↓qbm,↓qbn,↓qb0,↓qbv,↓qbq,↓qbu,↓qbz,↓qbw,↓qby,↓qbx,↓qbr,↓qbp,↓qb1,↓qbs,↓qbt,↓qbo,↓qez,↓qey,↓qe3,↓qe5,↓qe4,↓qex,↓qew,↓qet,↓qeu,↓qe2,↓qe1,↓qe0,qc5,↓qeq,↓qer,↓qev,↓qc4,↓qc2,↓qc3,↓qe7,↓qe8,↓qe9,↓qe6,qaa,↓qes,↓qef,↓qeg,↓qfb,↓qfa,↓qei,↓qdk,↓qds,↓qd9,↓qea,↓qen,↓qeo,↓qdo,↓qdp,↓qdr,↓qdq,↓qdx,↓qep,↓qdv,↓qej,↓qdn,↓qed,↓qek,↓qel,↓qem,↓qd1,↓qd0,↓qd2,↓qd3,↓qd5,↓qdz,↓qd6,↓qd8,↓qd7,↓qdl,↓qdm,↓qdy,↓qaw,↓qdw,↓qee,↓qec,↓qdj,↓qeh,↓qeb,↓qd4,qav,List.drop_zero,Nat.sub_zero,qcy,qct,qcu,qdh,qat,qas,qaf,List.map_cons,List.map_nil,List.zip_cons_cons,List.zip_nil_right,List.zip_nil_left,qau,evs,evp,mkB,repB,blen,qae,qad,qac,qab,qc1,qc0,qdg,qdi,qde,qdf,qcx,qcz,qcv,qcw,↓qdc,↓qdb,↓qdd,↓qah,↓qag,↓qai,↓retQ,res,resAll,resOne,kill,apartOk,exp,injV,injB,pur,purs,purR,pursR,List.set_cons_zero,List.set_cons_succ,List.length_cons,List.length_nil,List.cons_append,List.nil_append,List.append_nil,List.append_assoc,List.length_append,List.reduceReplicate,Nat.reduceAdd,Nat.reduceMul,Nat.reduceSub,Nat.reduceEqDiff,Nat.reduceLT,Nat.zero_add,Nat.add_zero,Nat.mul_one,Int.reduceToNat,Int.toNat_natCast,Int.cast_ofNat_Int,Int.reduceLE,Int.reduceLT,Int.reduceEq,reduceCtorEq,↓reduceIte,Bool.true_eq_false,Bool.false_eq_true,Bool.not_true,Bool.not_false,true_and,and_true,and_assoc,qaj,sub1,qc8,qc7,qc9,List.length_replicate,Nat.le_refl,false_implies,true_implies,ne_eq,not_true_eq_false,not_false_eq_true,decide_true,decide_false,decide_eq_true_eq,decide_eq_false_iff_not,Bool.not_eq_true',Bool.not_eq_false']
  repeat (refine And.intro (by omega) ?_)
  simp only [out, outs, out1, pur, and_self]
def trfC (l : List Int) : List Int := 99 :: 32 :: (l ++ [32, 116, 114, 97, 102, 102, 105, 99])
def trfS (l : List Int) : List Int := 115 :: 32 :: (l ++ [32, 116, 114, 97, 102, 102, 105, 99])
def preTrf (ds : List D) : Prop := ∃ (v : V) (b now l : List Int), ds = [.v v, .v (.str l)] ∧ Obj v b now ∧ Dig 256 l ∧ l.length ≤ 1000000
def F28 : List D → Out
  | [.v v, .v (.str l)] => .many [.v (.ints .u8 (labkey (getO v).2 (trfC l) (sumS (getO v).1))), .v (.ints .u8 (labkey (getO v).2 (trfS l) (sumS (getO v).1)))]
  | _ => bad
def s28 : Summ := sData [.r, .v] preTrf F28
theorem sumS_sec (b : List Int) : Sec (sumS b) := ⟨sum256_len _, sum256_dig _⟩
theorem trf_dig {l : List Int} (h : Dig 256 l) : Dig 256 (trfC l) ∧ Dig 256 (trfS l) := by
  have h2 : Dig 256 (l ++ [32, 116, 114, 97, 102, 102, 105, 99]) := Dig.append h (lit_dig rfl)
  refine ⟨fun x hx => ?_, fun x hx => ?_⟩ <;>
    (simp only [trfC, trfS, List.mem_cons] at hx
     rcases hx with rfl | rfl | hx
     · decide
     · decide
     · exact h2 x hx)
theorem ok28 {g : List Blk} [Ge gl g] : SumOK Tryd.prog g 28 s28 ∧ SumAbs s28 := by
  refine fsumA (l := [(46, s46), (42, s42)]) mixed gl_plain rfl Tryd.func28 comp28 compR28 nt28 (by simp only [List.mem_cons, List.not_mem_nil, or_false, forall_eq_or_imp, forall_eq]; exact ⟨ok46, ok42⟩) fun ds ⟨v, b, now, l, hd, ho, hl, hll⟩ hA => ?_
  subst hd
  have ho' := ho
  have hg := getO_obj ho
  obtain ⟨c, rfl, hc, hf, hbl, hn⟩ := ho
  have hsec := sumS_sec b
  obtain ⟨s, hs⟩ : ∃ s, sumS b = s := ⟨_, rfl⟩
  rw [hs] at hsec
  have sl := hsec.1
  have ps : spl [0, 0, 0, 0, 0, 0, 0, 0, 0, 0, 0, 0, 0, 0, 0, 0, 0, 0, 0, 0, 0, 0, 0, 0, 0, 0, 0, 0, 0, 0, 0, 0] 0 s = s := qc6 (by simp [sl])
  have ss : sub s 0 32 = s := qda sl
  obtain ⟨A, hA1⟩ : ∃ k, labkey now (trfC l) s = k := ⟨_, rfl⟩
  obtain ⟨B, hB⟩ : ∃ k, labkey now (trfS l) s = k := ⟨_, rfl⟩
  have lA : A.length = 32 := by rw [← hA1]; exact (labkey_sec _ _ _).1
  have lB : B.length = 32 := by rw [← hB]; exact (labkey_sec _ _ _).1
  have pA : spl [0, 0, 0, 0, 0, 0, 0, 0, 0, 0, 0, 0, 0, 0, 0, 0, 0, 0, 0, 0, 0, 0, 0, 0, 0, 0, 0, 0, 0, 0, 0, 0] 0 A = A := qc6 (by simp [lA])
  have pB : spl [0, 0, 0, 0, 0, 0, 0, 0, 0, 0, 0, 0, 0, 0, 0, 0, 0, 0, 0, 0, 0, 0, 0, 0, 0, 0, 0, 0, 0, 0, 0, 0] 0 B = B := qc6 (by simp [lB])
  have sA : sub A 0 32 = A := qda lA
  have sB : sub B 0 32 = B := qda lB
  have q1 : preLog0 [.v (.rpc (csS c now) 0), .v .nils] := ⟨_, b, now, rfl, ho'⟩
  have q2 : preDer [.v (.rpc (csS c now) 0), .v (.str (trfC l)), .v (.ints .u8 s)] := ⟨_, b, now, _, _, rfl, ho', (trf_dig hl).1, hsec⟩
  have q3 : preDer [.v (.rpc (csS c now) 0), .v (.str (trfS l)), .v (.ints .u8 s)] := ⟨_, b, now, _, _, rfl, ho', (trf_dig hl).2, hsec⟩
  have f1 : F46 [.v (.rpc (csS c now) 0), .v .nils] = .one (.v (.ints .u8 s)) := by
    show Out.one (.v (.ints .u8 (sumS (getO (.rpc (csS c now) 0)).1))) = _
    rw [hg, hs]
  have f2 : F42 [.v (.rpc (csS c now) 0), .v (.str (trfC l)), .v (.ints .u8 s)] = .one (.v (.ints .u8 A)) := by
    show Out.one (.v (.ints .u8 (labkey (getO (.rpc (csS c now) 0)).2 (trfC l) s))) = _
    rw [hg, hA1]
  have f3 : F42 [.v (.rpc (csS c now) 0), .v (.str (trfS l)), .v (.ints .u8 s)] = .one (.v (.ints .u8 B)) := by
    show Out.one (.v (.ints .u8 (labkey (getO (.rpc (csS c now) 0)).2 (trfS l) s))) = _
    rw [hg, hB]
  have hF : F28 [.v (.rpc (csS c now) 0), .v (.str l)] = .many [.v (.ints .u8 A), .v (.ints .u8 B)] := by
    show Out.many [.v (.ints .u8 (labkey (getO (.rpc (csS c now) 0)).2 (trfC l) (sumS (getO (.rpc (csS c now) 0)).1))), .v (.ints .u8 (labkey (getO (.rpc (csS c now) 0)).2 (trfS l) (sumS (getO (.rpc (csS c now) 0)).1)))] = _
    rw [hg, hs, hA1, hB]
  obtain ⟨cs, hcs⟩ : ∃ cs, csS c now = cs := ⟨_, rfl⟩
  rw [hcs] at q1 q2 q3 f1 f2 f3 hF
  simp only [trfC, trfS] at q2 q3 f2 f3
  have hp : pursR cs = true := by
    rw [← hcs]
    have : ∀ xs : List Int, pursR (xs.map (V.int .u8)) = true := fun xs => by
      induction xs with
      | nil => rfl
      | cons x xs ih => simpa [pursR, purR] using ih
    rcases hc with rfl | ⟨xs, rfl, hx⟩ <;> simp [purR, pursR, csS, this]
  simp only [hcs, s46, s42]
  simp only [ir28,rs28,gl,hF,hp,q1,q2,q3,f1,f2,f3,sl,ps,ss,lA,lB,pA,pB,sA,sB,qda,qc6,qaj,List.length_cons,List.length_nil,Nat.reduceAdd,Nat.le_refl,Nat.reduceLeDiff,Nat.reduceLT,true_and,and_true,↓qax,↓qay,↓qa0,↓qaz,↓qcs,↓qbj,↓qa1,↓qcl,↓qb3,↓qci,↓qcb,↓qce,↓qcf,↓qb4,↓qcd,↓qcj,↓qb5,↓qcg,↓qch,↓qb6,↓qcc,↓qca,↓qb9,↓qb8,↓qb7,↓qa5,↓qbc,↓qa6,↓qbd,↓qa7,↓qbe,↓qa8,↓qbf,↓qa9,↓qbg,↓qba,↓qbh,↓qbb,↓qbi,↓qb2,↓qck,↓qfc,↓qco,↓qcp,↓qcq,↓qcn,↓qcm,↓qbm,↓qbn,↓qb0,↓qbv,↓qbq,↓qbu,↓qbz,↓qbw,↓qby,↓qbx,↓qbr,↓qbp,↓qb1,↓qbs,↓qbt,↓qbo,↓qez,↓qey,↓qe3,↓qe5,↓qe4,↓qex,↓qew,↓qet,↓qeu,↓qe2,↓qe1,↓qe0,qc5,↓qeq,↓qer,↓qev,↓qc4,↓qc2,↓qc3,↓qe7,↓qe8,↓qe9,↓qe6,qaa,↓qes,↓qef,↓qeg,↓qfb,↓qfa,↓qei,↓qdk,↓qds,↓qd9,↓qea,↓qen,↓qeo,↓qdo,↓qdp,↓qdr,↓qdq,↓qdx,↓qep,↓qdv,↓qej,↓qdn,↓qed,↓qek,↓qel,↓qem,↓qd1,↓qd0,↓qd2,↓qd3,↓qd5,↓qdz,↓qd6,↓qd8,↓qd7,↓qdl,↓qdm,↓qdy,↓qaw,↓qdw,↓qee,↓qec,↓qdj,↓qeh,↓qeb,↓qd4,qav,List.drop_zero,Nat.sub_zero,qcy,qct,qcu,qdh,qat,qas,qaf,List.map_cons,List.map_nil,List.zip_cons_cons,List.zip_nil_right,List.zip_nil_left,qau,evs,evp,mkB,repB,blen,qae,qad,qac,qab,qc1,qc0,qdg,qdi,qde,qdf,qcx,qcz,qcv,qcw,↓qdc,↓qdb,↓qdd,↓qah,↓qag,↓qai,↓retQ,res,resAll,resOne,kill,apartOk,exp,injV,injB,pur,purs,purR,pursR,List.set_cons_zero,List.set_cons_succ,List.length_cons,List.length_nil,List.cons_append,List.nil_append,List.append_nil,List.append_assoc,List.length_append,List.reduceReplicate,Nat.reduceAdd,Nat.reduceMul,Nat.reduceSub,Nat.reduceEqDiff,Nat.reduceLT,Nat.zero_add,Nat.add_zero,Nat.mul_one,Int.reduceToNat,Int.toNat_natCast,Int.cast_ofNat_Int,Int.reduceLE,Int.reduceLT,Int.reduceEq,reduceCtorEq,↓reduceIte,Bool.true_eq_false,Bool.false_eq_true,Bool.not_true,Bool.not_false,true_and,and_true,and_assoc,qaj,sub1,qc8,qc7,qc9,List.length_replicate,Nat.le_refl,false_implies,true_implies,ne_eq,not_true_eq_false,not_false_eq_true,decide_true,decide_false,decide_eq_true_eq,decide_eq_false_iff_not,Bool.not_eq_true',Bool.not_eq_false']
  repeat (refine And.intro (by omega) ?_)
  simp only [out, outs, out1, pur, and_self]
end Am
set_option linter.unusedSimpArgs false
set_option linter.unusedVariables false
set_option maxRecDepth 20000
namespace Am
open Go.Proofs
/-! ### Finished; the reference's shadow -/
def lfin : List Int := [102, 105, 110, 105, 115, 104, 101, 100]
def finS (s m : List Int) : List Int := hmac (ex s lfin 32) m
def preSS (ds : List D) : Prop := ∃ s m : List Int, ds = [.v (.ints .u8 s), .v (.ints .u8 m)] ∧ Sec s ∧ Sec m
def F19 : List D → Out
  | [.v (.ints _ s), .v (.ints _ m)] => .one (.v (.ints .u8 (finS s m)))
  | _ => bad
def s19 : Summ := sData [.v, .v] preSS F19
theorem ok19 {g : List Blk} [Ge gl g] : SumOK Tryd.prog g 19 s19 ∧ SumAbs s19 := by
  refine fsumA (l := [(40, s40), (41, s41)]) mixed gl_plain rfl Tryd.func19 comp19 compR19 nt19 (by simp only [List.mem_cons, List.not_mem_nil, or_false, forall_eq_or_imp, forall_eq]; exact ⟨ok40, ok41⟩) fun ds ⟨s, m, hd, hs, hm⟩ hA => ?_
  subst hd
  have hsl := hs.1
  have hml := hm.1
  have ss : sub s 0 32 = s := qda hsl
  have sm : sub m 0 32 = m := qda hml
  have q1 : pre40 [.v (.ints .u8 s), .v (.str lfin), .s .u8 []] := ⟨_, _, _, rfl, hs.2, hsl, lit_dig rfl, fun x hx => by simp at hx⟩
  have k1 : labkey s lfin [] = ex s lfin 32 := by rw [labkey, if_neg (by decide)]; rfl
  have hF : F19 [.v (.ints .u8 s), .v (.ints .u8 m)] = .one (.v (.ints .u8 (hmac (ex s lfin 32) m))) := rfl
  obtain ⟨k, hk⟩ : ∃ k, ex s lfin 32 = k := ⟨_, rfl⟩
  have kl : k.length = 32 := by rw [← hk, ex_dig]
  have kd : Dig 256 k := by rw [← hk]; exact expand_dig _ _ _
  rw [hk] at k1 hF
  have pk : spl [0, 0, 0, 0, 0, 0, 0, 0, 0, 0, 0, 0, 0, 0, 0, 0, 0, 0, 0, 0, 0, 0, 0, 0, 0, 0, 0, 0, 0, 0, 0, 0] 0 k = k := qc6 (by simp [kl])
  have sk : sub k 0 32 = k := qda kl
  have q2 : pre41 [.s .u8 k, .v (.rcs 1 1 [.rsl 1 32 .u8 m])] := ⟨k, [.rsl 1 32 .u8 m], rfl, kd, by omega, parts_cons (part_rsl' hm.2 (by omega)) parts_nil, by simp [flat]; omega, by simp⟩
  have e1 : hmac k (flat [.rsl 1 32 .u8 m]) = hmac k m := by simp [flat]
  obtain ⟨r, hr⟩ : ∃ r, hmac k m = r := ⟨_, rfl⟩
  have rl : r.length = 32 := by rw [← hr]; exact hmac_len _ _
  have pr : spl [0, 0, 0, 0, 0, 0, 0, 0, 0, 0, 0, 0, 0, 0, 0, 0, 0, 0, 0, 0, 0, 0, 0, 0, 0, 0, 0, 0, 0, 0, 0, 0] 0 r = r := qc6 (by simp [rl])
  have sr : sub r 0 32 = r := qda rl
  rw [hr] at e1 hF
  simp only [lfin] at q1 k1
  simp only [s40, s41]
  simp only [ir19,rs19,gl,hF,hsl,hml,ss,sm,q1,k1,kl,pk,sk,q2,e1,rl,pr,sr,s40,s41,F40,F41,qda,qc6,qaj,List.length_cons,List.length_nil,Nat.reduceAdd,Nat.le_refl,Nat.reduceLeDiff,Nat.reduceLT,true_and,and_true,↓qax,↓qay,↓qa0,↓qaz,↓qcs,↓qbj,↓qa1,↓qcl,↓qb3,↓qci,↓qcb,↓qce,↓qcf,↓qb4,↓qcd,↓qcj,↓qb5,↓qcg,↓qch,↓qb6,↓qcc,↓qca,↓qb9,↓qb8,↓qb7,↓qa5,↓qbc,↓qa6,↓qbd,↓qa7,↓qbe,↓qa8,↓qbf,↓qa9,↓qbg,↓qba,↓qbh,↓qbb,↓qbi,↓qb2,↓qck,↓qfc,↓qco,↓qcp,↓qcq,↓qcn,↓qcm,↓qbm,↓qbn,↓qb0,↓qbv,↓qbq,↓qbu,↓qbz,↓qbw,↓qby,↓qbx,↓qbr,↓qbp,↓qb1,↓qbs,↓qbt,↓qbo,↓qez,↓qey,↓qe3,↓qe5,↓qe4,↓qex,↓qew,↓qet,↓qeu,↓qe2,↓qe1,↓qe0,qc5,↓qeq,↓qer,↓qev,↓qc4,↓qc2,↓qc3,↓qe7,↓qe8,↓qe9,↓qe6,qaa,↓qes,↓qef,↓qeg,↓qfb,↓qfa,↓qei,↓qdk,↓qds,↓qd9,↓qea,↓qen,↓qeo,↓qdo,↓qdp,↓qdr,↓qdq,↓qdx,↓qep,↓qdv,↓qej,↓qdn,↓qed,↓qek,↓qel,↓qem,↓qd1,↓qd0,↓qd2,↓qd3,↓qd5,↓qdz,↓qd6,↓qd8,↓qd7,↓qdl,↓qdm,↓qdy,↓qaw,↓qdw,↓qee,↓qec,↓qdj,↓qeh,↓qeb,↓qd4,qav,List.drop_zero,Nat.sub_zero,qcy,qct,qcu,qdh,qat,qas,qaf,List.map_cons,List.map_nil,List.zip_cons_cons,List.zip_nil_right,List.zip_nil_left,qau,evs,evp,mkB,repB,blen,qae,qad,qac,qab,qc1,qc0,qdg,qdi,qde,qdf,qcx,qcz,qcv,qcw,↓qdc,↓qdb,↓qdd,↓qah,↓qag,↓qai,↓retQ,res,resAll,resOne,kill,apartOk,exp,injV,injB,pur,purs,purR,pursR,List.set_cons_zero,List.set_cons_succ,List.length_cons,List.length_nil,List.cons_append,List.nil_append,List.append_nil,List.append_assoc,List.length_append,List.reduceReplicate,Nat.reduceAdd,Nat.reduceMul,Nat.reduceSub,Nat.reduceEqDiff,Nat.reduceLT,Nat.zero_add,Nat.add_zero,Nat.mul_one,Int.reduceToNat,Int.toNat_natCast,Int.cast_ofNat_Int,Int.reduceLE,Int.reduceLT,Int.reduceEq,reduceCtorEq,↓reduceIte,Bool.true_eq_false,Bool.false_eq_true,Bool.not_true,Bool.not_false,true_and,and_true,and_assoc,qaj,sub1,qc8,qc7,qc9,List.length_replicate,Nat.le_refl,false_implies,true_implies,ne_eq,not_true_eq_false,not_false_eq_true,decide_true,decide_false,decide_eq_true_eq,decide_eq_false_iff_not,Bool.not_eq_true',Bool.not_eq_false']
  repeat (refine And.intro (by omega) ?_)
  simp only [out, outs, out1, pur, and_self]
def preBeg (ds : List D) : Prop := ∃ b : List Int, ds = [.s .u8 b] ∧ Dig 256 b ∧ b.length ≤ 549755813888
def F22 : List D → Out
  | [.s _ b] => .one (.v (.ints .u8 (hmac zz (pskOf b))))
  | _ => bad
def s22 : Summ := sData [.s .u8] preBeg F22
theorem ok22 {g : List Blk} [Ge gl1 g] : SumOK Tryd.prog g 22 s22 ∧ SumAbs s22 := by
  refine fsumA (l := [(15, s15)]) mixed gl1_plain rfl Tryd.func22 comp22 compR22 nt22 (by simp only [List.mem_cons, List.not_mem_nil, or_false, forall_eq]; exact ok15) fun ds ⟨b, hd, hb, hbl⟩ hA => ?_
  subst hd
  have sz : sub zz 0 32 = zz := rfl
  have sb := qc8 b
  have main : ∀ b : List Int, Dig 256 b → b.length ≤ 549755813888 → pre15 [.s .u8 zz, .s .u8 b] := fun b hb hl => ⟨_, _, rfl, zz_dig, by decide, hb, hl⟩
  simp only [s15]
  by_cases h0 : b.length = 0
  · have hF : F22 [.s .u8 b] = .one (.v (.ints .u8 (hmac zz zz))) := by
      show Out.one (.v (.ints .u8 (hmac zz (pskOf b)))) = _
      rw [pskOf, if_pos h0]
    have q := main zz zz_dig (by decide)
    obtain ⟨r, hr⟩ : ∃ r, hmac zz zz = r := ⟨_, rfl⟩
    have rl : r.length = 32 := by rw [← hr]; exact hmac_len _ _
    have pr : spl [0, 0, 0, 0, 0, 0, 0, 0, 0, 0, 0, 0, 0, 0, 0, 0, 0, 0, 0, 0, 0, 0, 0, 0, 0, 0, 0, 0, 0, 0, 0, 0] 0 r = r := qc6 (by simp [rl])
    have sr : sub r 0 32 = r := qda rl
    rw [hr] at hF
    have c1 : (b.length : Int) = 0 := by omega
    simp only [zz, List.reduceReplicate] at q hr sz
    simp only [ir22,rs22,gl1,hF,c1,sz,sb,q,hr,rl,pr,sr,s15,F15,qda,qc6,qaj,List.length_cons,List.length_nil,Nat.reduceAdd,Nat.le_refl,Nat.reduceLeDiff,Nat.reduceLT,true_and,and_true,↓qax,↓qay,↓qa0,↓qaz,↓qcs,↓qbj,↓qa1,↓qcl,↓qb3,↓qci,↓qcb,↓qce,↓qcf,↓qb4,↓qcd,↓qcj,↓qb5,↓qcg,↓qch,↓qb6,↓qcc,↓qca,↓qb9,↓qb8,↓qb7,↓qa5,↓qbc,↓qa6,↓qbd,↓qa7,↓qbe,↓qa8,↓qbf,↓qa9,↓qbg,↓qba,↓qbh,↓qbb,↓qbi,↓qb2,↓qck,↓qfc,↓qco,↓qcp,↓qcq,↓qcn,↓qcm,↓qbm,↓qbn,↓qb0,↓qbv,↓qbq,↓qbu,↓qbz,↓qbw,↓qby,↓qbx,↓qbr,↓qbp,↓qb1,↓qbs,↓qbt,↓qbo,↓qez,↓qey,↓qe3,↓qe5,↓qe4,↓qex,↓qew,↓qet,↓qeu,↓qe2,↓qe1,↓qe0,qc5,↓qeq,↓qer,↓qev,↓qc4,↓qc2,↓qc3,↓qe7,↓qe8,↓qe9,↓qe6,qaa,↓qes,↓qef,↓qeg,↓qfb,↓qfa,↓qei,↓qdk,↓qds,↓qd9,↓qea,↓qen,↓qeo,↓qdo,↓qdp,↓qdr,↓qdq,↓qdx,↓qep,↓qdv,↓qej,↓qdn,↓qed,↓qek,↓qel,↓qem,↓qd1,↓qd0,↓qd2,↓qd3,↓qd5,↓qdz,↓qd6,↓qd8,↓qd7,↓qdl,↓qdm,↓qdy,↓qaw,↓qdw,↓qee,↓qec,↓qdj,↓qeh,↓qeb,↓qd4,qav,List.drop_zero,Nat.sub_zero,qcy,qct,qcu,qdh,qat,qas,qaf,List.map_cons,List.map_nil,List.zip_cons_cons,List.zip_nil_right,List.zip_nil_left,qau,evs,evp,mkB,repB,blen,qae,qad,qac,qab,qc1,qc0,qdg,qdi,qde,qdf,qcx,qcz,qcv,qcw,↓qdc,↓qdb,↓qdd,↓qah,↓qag,↓qai,↓retQ,res,resAll,resOne,kill,apartOk,exp,injV,injB,pur,purs,purR,pursR,List.set_cons_zero,List.set_cons_succ,List.length_cons,List.length_nil,List.cons_append,List.nil_append,List.append_nil,List.append_assoc,List.length_append,List.reduceReplicate,Nat.reduceAdd,Nat.reduceMul,Nat.reduceSub,Nat.reduceEqDiff,Nat.reduceLT,Nat.zero_add,Nat.add_zero,Nat.mul_one,Int.reduceToNat,Int.toNat_natCast,Int.cast_ofNat_Int,Int.reduceLE,Int.reduceLT,Int.reduceEq,reduceCtorEq,↓reduceIte,Bool.true_eq_false,Bool.false_eq_true,Bool.not_true,Bool.not_false,true_and,and_true,and_assoc,qaj,sub1,qc8,qc7,qc9,List.length_replicate,Nat.le_refl,false_implies,true_implies,ne_eq,not_true_eq_false,not_false_eq_true,decide_true,decide_false,decide_eq_true_eq,decide_eq_false_iff_not,Bool.not_eq_true',Bool.not_eq_false']
    repeat (refine And.intro (by omega) ?_)
    simp only [out, outs, out1, pur, and_self]
  · have hF : F22 [.s .u8 b] = .one (.v (.ints .u8 (hmac zz b))) := by
      show Out.one (.v (.ints .u8 (hmac zz (pskOf b)))) = _
      rw [pskOf, if_neg h0]
    have q := main b hb hbl
    obtain ⟨r, hr⟩ : ∃ r, hmac zz b = r := ⟨_, rfl⟩
    have rl : r.length = 32 := by rw [← hr]; exact hmac_len _ _
    have pr : spl [0, 0, 0, 0, 0, 0, 0, 0, 0, 0, 0, 0, 0, 0, 0, 0, 0, 0, 0, 0, 0, 0, 0, 0, 0, 0, 0, 0, 0, 0, 0, 0] 0 r = r := qc6 (by simp [rl])
    have sr : sub r 0 32 = r := qda rl
    rw [hr] at hF
    have c1 : ¬ (b.length : Int) = 0 := by omega
    simp only [zz, List.reduceReplicate] at q hr sz
    simp only [ir22,rs22,gl1,hF,c1,sz,sb,q,hr,rl,pr,sr,s15,F15,qda,qc6,qaj,List.length_cons,List.length_nil,Nat.reduceAdd,Nat.le_refl,Nat.reduceLeDiff,Nat.reduceLT,true_and,and_true,↓qax,↓qay,↓qa0,↓qaz,↓qcs,↓qbj,↓qa1,↓qcl,↓qb3,↓qci,↓qcb,↓qce,↓qcf,↓qb4,↓qcd,↓qcj,↓qb5,↓qcg,↓qch,↓qb6,↓qcc,↓qca,↓qb9,↓qb8,↓qb7,↓qa5,↓qbc,↓qa6,↓qbd,↓qa7,↓qbe,↓qa8,↓qbf,↓qa9,↓qbg,↓qba,↓qbh,↓qbb,↓qbi,↓qb2,↓qck,↓qfc,↓qco,↓qcp,↓qcq,↓qcn,↓qcm,↓qbm,↓qbn,↓qb0,↓qbv,↓qbq,↓qbu,↓qbz,↓qbw,↓qby,↓qbx,↓qbr,↓qbp,↓qb1,↓qbs,↓qbt,↓qbo,↓qez,↓qey,↓qe3,↓qe5,↓qe4,↓qex,↓qew,↓qet,↓qeu,↓qe2,↓qe1,↓qe0,qc5,↓qeq,↓qer,↓qev,↓qc4,↓qc2,↓qc3,↓qe7,↓qe8,↓qe9,↓qe6,qaa,↓qes,↓qef,↓qeg,↓qfb,↓qfa,↓qei,↓qdk,↓qds,↓qd9,↓qea,↓qen,↓qeo,↓qdo,↓qdp,↓qdr,↓qdq,↓qdx,↓qep,↓qdv,↓qej,↓qdn,↓qed,↓qek,↓qel,↓qem,↓qd1,↓qd0,↓qd2,↓qd3,↓qd5,↓qdz,↓qd6,↓qd8,↓qd7,↓qdl,↓qdm,↓qdy,↓qaw,↓qdw,↓qee,↓qec,↓qdj,↓qeh,↓qeb,↓qd4,qav,List.drop_zero,Nat.sub_zero,qcy,qct,qcu,qdh,qat,qas,qaf,List.map_cons,List.map_nil,List.zip_cons_cons,List.zip_nil_right,List.zip_nil_left,qau,evs,evp,mkB,repB,blen,qae,qad,qac,qab,qc1,qc0,qdg,qdi,qde,qdf,qcx,qcz,qcv,qcw,↓qdc,↓qdb,↓qdd,↓qah,↓qag,↓qai,↓retQ,res,resAll,resOne,kill,apartOk,exp,injV,injB,pur,purs,purR,pursR,List.set_cons_zero,List.set_cons_succ,List.length_cons,List.length_nil,List.cons_append,List.nil_append,List.append_nil,List.append_assoc,List.length_append,List.reduceReplicate,Nat.reduceAdd,Nat.reduceMul,Nat.reduceSub,Nat.reduceEqDiff,Nat.reduceLT,Nat.zero_add,Nat.add_zero,Nat.mul_one,Int.reduceToNat,Int.toNat_natCast,Int.cast_ofNat_Int,Int.reduceLE,Int.reduceLT,Int.reduceEq,reduceCtorEq,↓reduceIte,Bool.true_eq_false,Bool.false_eq_true,Bool.not_true,Bool.not_false,true_and,and_true,and_assoc,qaj,sub1,qc8,qc7,qc9,List.length_replicate,Nat.le_refl,false_implies,true_implies,ne_eq,not_true_eq_false,not_false_eq_true,decide_true,decide_false,decide_eq_true_eq,decide_eq_false_iff_not,Bool.not_eq_true',Bool.not_eq_false']
    repeat (refine And.intro (by omega) ?_)
    simp only [out, outs, out1, pur, and_self]
def drv (s l c : List Int) : List Int := expand s (labinfo l c 32) 32
def preDrv (ds : List D) : Prop := ∃ s l c : List Int, ds = [.v (.ints .u8 s), .v (.str l), .s .u8 c] ∧ Sec s ∧ Dig 256 l ∧ l.length ≤ 1000000 ∧ Dig 256 c ∧ c.length ≤ 1000000
def F25 : List D → Out
  | [.v (.ints _ s), .v (.str l), .s _ c] => .one (.v (.ints .u8 (drv s l c)))
  | _ => bad
def s25 : Summ := sData [.v, .v, .s .u8] preDrv F25
theorem ok25 {g : List Blk} [Ge gl1 g] : SumOK Tryd.prog g 25 s25 ∧ SumAbs s25 := by
  refine fsumA (l := [(17, s17), (16, s16)]) mixed gl1_plain rfl Tryd.func25 comp25 compR25 nt25 (by simp only [List.mem_cons, List.not_mem_nil, or_false, forall_eq_or_imp, forall_eq]; exact ⟨ok17, ok16⟩) fun ds ⟨s, l, c, hd, hs, hl, hll, hc, hcl⟩ hA => ?_
  subst hd
  have hsl := hs.1
  have ss : sub s 0 32 = s := qda hsl
  have sc := qc8 c
  have q1 : pre17 [.v (.str l), .s .u8 c, .v (.int .i64 32)] := ⟨l, c, 32, rfl, hl, hll, hc, by omega, by decide⟩
  have hil : (labinfo l c 32).length ≤ 274877906944 := by rw [labinfo_len]; omega
  have hid : Dig 256 (labinfo l c 32) := labinfo_dig hl hc
  have hF : F25 [.v (.ints .u8 s), .v (.str l), .s .u8 c] = .one (.v (.ints .u8 (expand s (labinfo l c 32) 32))) := rfl
  obtain ⟨i, hi⟩ : ∃ i, labinfo l c 32 = i := ⟨_, rfl⟩
  rw [hi] at hil hid hF
  have si := qc8 i
  have q2 : pre16 [.v (.ints .u8 s), .s .u8 i, .v (.int .i64 32)] := ⟨s, i, 32, rfl, hs.2, hsl, hid, hil, by decide⟩
  obtain ⟨r, hr⟩ : ∃ r, expand s i 32 = r := ⟨_, rfl⟩
  have rl : r.length = 32 := by rw [← hr, expand_len]
  rw [hr] at hF
  have pr : spl [0, 0, 0, 0, 0, 0, 0, 0, 0, 0, 0, 0, 0, 0, 0, 0, 0, 0, 0, 0, 0, 0, 0, 0, 0, 0, 0, 0, 0, 0, 0, 0] 0 r = r := qc6 (by simp [rl])
  have sr : sub r 0 32 = r := qda rl
  have tr : r.take 32 = r := List.take_of_length_le (by omega)
  have t32 : (32 : Int).toNat = 32 := rfl
  simp only [s17, s16]
  simp only [ir25,rs25,gl1,hF,hsl,ss,sc,q1,hi,si,q2,t32,hr,rl,pr,sr,tr,Nat.min_self,s17,s16,F17,F16,qda,qc6,qaj,List.length_cons,List.length_nil,Nat.reduceAdd,Nat.le_refl,Nat.reduceLeDiff,Nat.reduceLT,true_and,and_true,↓qax,↓qay,↓qa0,↓qaz,↓qcs,↓qbj,↓qa1,↓qcl,↓qb3,↓qci,↓qcb,↓qce,↓qcf,↓qb4,↓qcd,↓qcj,↓qb5,↓qcg,↓qch,↓qb6,↓qcc,↓qca,↓qb9,↓qb8,↓qb7,↓qa5,↓qbc,↓qa6,↓qbd,↓qa7,↓qbe,↓qa8,↓qbf,↓qa9,↓qbg,↓qba,↓qbh,↓qbb,↓qbi,↓qb2,↓qck,↓qfc,↓qco,↓qcp,↓qcq,↓qcn,↓qcm,↓qbm,↓qbn,↓qb0,↓qbv,↓qbq,↓qbu,↓qbz,↓qbw,↓qby,↓qbx,↓qbr,↓qbp,↓qb1,↓qbs,↓qbt,↓qbo,↓qez,↓qey,↓qe3,↓qe5,↓qe4,↓qex,↓qew,↓qet,↓qeu,↓qe2,↓qe1,↓qe0,qc5,↓qeq,↓qer,↓qev,↓qc4,↓qc2,↓qc3,↓qe7,↓qe8,↓qe9,↓qe6,qaa,↓qes,↓qef,↓qeg,↓qfb,↓qfa,↓qei,↓qdk,↓qds,↓qd9,↓qea,↓qen,↓qeo,↓qdo,↓qdp,↓qdr,↓qdq,↓qdx,↓qep,↓qdv,↓qej,↓qdn,↓qed,↓qek,↓qel,↓qem,↓qd1,↓qd0,↓qd2,↓qd3,↓qd5,↓qdz,↓qd6,↓qd8,↓qd7,↓qdl,↓qdm,↓qdy,↓qaw,↓qdw,↓qee,↓qec,↓qdj,↓qeh,↓qeb,↓qd4,qav,List.drop_zero,Nat.sub_zero,qcy,qct,qcu,qdh,qat,qas,qaf,List.map_cons,List.map_nil,List.zip_cons_cons,List.zip_nil_right,List.zip_nil_left,qau,evs,evp,mkB,repB,blen,qae,qad,qac,qab,qc1,qc0,qdg,qdi,qde,qdf,qcx,qcz,qcv,qcw,↓qdc,↓qdb,↓qdd,↓qah,↓qag,↓qai,↓retQ,res,resAll,resOne,kill,apartOk,exp,injV,injB,pur,purs,purR,pursR,List.set_cons_zero,List.set_cons_succ,List.length_cons,List.length_nil,List.cons_append,List.nil_append,List.append_nil,List.append_assoc,List.length_append,List.reduceReplicate,Nat.reduceAdd,Nat.reduceMul,Nat.reduceSub,Nat.reduceEqDiff,Nat.reduceLT,Nat.zero_add,Nat.add_zero,Nat.mul_one,Int.reduceToNat,Int.toNat_natCast,Int.cast_ofNat_Int,Int.reduceLE,Int.reduceLT,Int.reduceEq,reduceCtorEq,↓reduceIte,Bool.true_eq_false,Bool.false_eq_true,Bool.not_true,Bool.not_false,true_and,and_true,and_assoc,qaj,sub1,qc8,qc7,qc9,List.length_replicate,Nat.le_refl,false_implies,true_implies,ne_eq,not_true_eq_false,not_false_eq_true,decide_true,decide_false,decide_eq_true_eq,decide_eq_false_iff_not,Bool.not_eq_true',Bool.not_eq_false']
  repeat (refine And.intro (by omega) ?_)
  simp only [out, outs, out1, pur, and_self]
def F20 : List D → Out
  | [.v (.ints _ s), .v (.ints _ m)] => .one (.v (.ints .u8 (finS s m)))
  | _ => bad
def s20 : Summ := sData [.v, .v] preSS F20
theorem ok20 {g : List Blk} [Ge gl1 g] : SumOK Tryd.prog g 20 s20 ∧ SumAbs s20 := by
  refine fsumA (l := [(25, s25), (15, s15)]) mixed gl1_plain rfl Tryd.func20 comp20 compR20 nt20 (by simp only [List.mem_cons, List.not_mem_nil, or_false, forall_eq_or_imp, forall_eq]; exact ⟨ok25, ok15⟩) fun ds ⟨s, m, hd, hs, hm⟩ hA => ?_
  subst hd
  have hsl := hs.1
  have hml := hm.1
  have ss : sub s 0 32 = s := qda hsl
  have sm : sub m 0 32 = m := qda hml
  have q1 : preDrv [.v (.ints .u8 s), .v (.str lfin), .s .u8 []] := ⟨_, _, _, rfl, hs, lit_dig rfl, by decide, fun x hx => by simp at hx, by decide⟩
  have hF : F20 [.v (.ints .u8 s), .v (.ints .u8 m)] = .one (.v (.ints .u8 (hmac (ex s lfin 32) m))) := rfl
  have k1 : drv s lfin [] = ex s lfin 32 := rfl
  obtain ⟨k, hk⟩ : ∃ k, ex s lfin 32 = k := ⟨_, rfl⟩
  have kl : k.length = 32 := by rw [← hk, ex_dig]
  have kd : Dig 256 k := by rw [← hk]; exact expand_dig _ _ _
  rw [hk] at k1 hF
  have pk : spl [0, 0, 0, 0, 0, 0, 0, 0, 0, 0, 0, 0, 0, 0, 0, 0, 0, 0, 0, 0, 0, 0, 0, 0, 0, 0, 0, 0, 0, 0, 0, 0] 0 k = k := qc6 (by simp [kl])
  have sk : sub k 0 32 = k := qda kl
  have q2 : pre15 [.s .u8 k, .s .u8 m] := ⟨_, _, rfl, kd, by omega, hm.2, by omega⟩
  obtain ⟨r, hr⟩ : ∃ r, hmac k m = r := ⟨_, rfl⟩
  have rl : r.length = 32 := by rw [← hr]; exact hmac_len _ _
  have pr : spl [0, 0, 0, 0, 0, 0, 0, 0, 0, 0, 0, 0, 0, 0, 0, 0, 0, 0, 0, 0, 0, 0, 0, 0, 0, 0, 0, 0, 0, 0, 0, 0] 0 r = r := qc6 (by simp [rl])
  have sr : sub r 0 32 = r := qda rl
  rw [hr] at hF
  simp only [lfin] at q1 k1
  simp only [s25, s15]
  simp only [ir20,rs20,gl1,hF,hsl,hml,ss,sm,q1,k1,kl,pk,sk,q2,hr,rl,pr,sr,s25,s15,F25,F15,qda,qc6,qaj,List.length_cons,List.length_nil,Nat.reduceAdd,Nat.le_refl,Nat.reduceLeDiff,Nat.reduceLT,true_and,and_true,↓qax,↓qay,↓qa0,↓qaz,↓qcs,↓qbj,↓qa1,↓qcl,↓qb3,↓qci,↓qcb,↓qce,↓qcf,↓qb4,↓qcd,↓qcj,↓qb5,↓qcg,↓qch,↓qb6,↓qcc,↓qca,↓qb9,↓qb8,↓qb7,↓qa5,↓qbc,↓qa6,↓qbd,↓qa7,↓qbe,↓qa8,↓qbf,↓qa9,↓qbg,↓qba,↓qbh,↓qbb,↓qbi,↓qb2,↓qck,↓qfc,↓qco,↓qcp,↓qcq,↓qcn,↓qcm,↓qbm,↓qbn,↓qb0,↓qbv,↓qbq,↓qbu,↓qbz,↓qbw,↓qby,↓qbx,↓qbr,↓qbp,↓qb1,↓qbs,↓qbt,↓qbo,↓qez,↓qey,↓qe3,↓qe5,↓qe4,↓qex,↓qew,↓qet,↓qeu,↓qe2,↓qe1,↓qe0,qc5,↓qeq,↓qer,↓qev,↓qc4,↓qc2,↓qc3,↓qe7,↓qe8,↓qe9,↓qe6,qaa,↓qes,↓qef,↓qeg,↓qfb,↓qfa,↓qei,↓qdk,↓qds,↓qd9,↓qea,↓qen,↓qeo,↓qdo,↓qdp,↓qdr,↓qdq,↓qdx,↓qep,↓qdv,↓qej,↓qdn,↓qed,↓qek,↓qel,↓qem,↓qd1,↓qd0,↓qd2,↓qd3,↓qd5,↓qdz,↓qd6,↓qd8,↓qd7,↓qdl,↓qdm,↓qdy,↓qaw,↓qdw,↓qee,↓qec,↓qdj,↓qeh,↓qeb,↓qd4,qav,List.drop_zero,Nat.sub_zero,qcy,qct,qcu,qdh,qat,qas,qaf,List.map_cons,List.map_nil,List.zip_cons_cons,List.zip_nil_right,List.zip_nil_left,qau,evs,evp,mkB,repB,blen,qae,qad,qac,qab,qc1,qc0,qdg,qdi,qde,qdf,qcx,qcz,qcv,qcw,↓qdc,↓qdb,↓qdd,↓qah,↓qag,↓qai,↓retQ,res,resAll,resOne,kill,apartOk,exp,injV,injB,pur,purs,purR,pursR,List.set_cons_zero,List.set_cons_succ,List.length_cons,List.length_nil,List.cons_append,List.nil_append,List.append_nil,List.append_assoc,List.length_append,List.reduceReplicate,Nat.reduceAdd,Nat.reduceMul,Nat.reduceSub,Nat.reduceEqDiff,Nat.reduceLT,Nat.zero_add,Nat.add_zero,Nat.mul_one,Int.reduceToNat,Int.toNat_natCast,Int.cast_ofNat_Int,Int.reduceLE,Int.reduceLT,Int.reduceEq,reduceCtorEq,↓reduceIte,Bool.true_eq_false,Bool.false_eq_true,Bool.not_true,Bool.not_false,true_and,and_true,and_assoc,qaj,sub1,qc8,qc7,qc9,List.length_replicate,Nat.le_refl,false_implies,true_implies,ne_eq,not_true_eq_false,not_false_eq_true,decide_true,decide_false,decide_eq_true_eq,decide_eq_false_iff_not,Bool.not_eq_true',Bool.not_eq_false']
  repeat (refine And.intro (by omega) ?_)
  simp only [out, outs, out1, pur, and_self]
/-! ### Awake, SecretsFinished -/
def FTrue15 : List D → Out
  | _ => .one (.v (.bool true))
def lhs2 : List Int := [104, 115]
def e0 : List Int := hmac zz zz
theorem aw15 : (getI e0 0 = 51 ∧ getI e0 1 = 173) ∧ getI e0 2 = 10 ∧ getI e0 3 = 28 := by decide +kernel
theorem aw15b : decide (labkey e0 (trfC lhs2) (sumS []) = labkey e0 (trfS lhs2) (sumS [])) = false := by decide +kernel
end Am
set_option linter.unusedSimpArgs false
set_option linter.unusedVariables false
set_option maxRecDepth 20000
namespace Am
open Go.Proofs
def F18 : List D → Out
  | _ => .one (.v (.bool true))
def pre18 (ds : List D) : Prop := ds = []
def s18 : Summ := sData [] pre18 F18
set_option maxHeartbeats 4000000 in
theorem ok18 {g : List Blk} [Ge gl1 g] : SumOK Tryd.prog g 18 s18 ∧ SumAbs s18 := by
  refine fsumA (l := [(21, s21), (28, s28), (24, s24), (22, s22), (25, s25)]) mixed gl1_plain rfl Tryd.func18 comp18 compR18 nt18 (by simp only [List.mem_cons, List.not_mem_nil, or_false, forall_eq_or_imp, forall_eq]; exact ⟨ok21, ok28, ok24, ok22, ok25⟩) fun ds hd hA => ?_
  rw [hd]
  have hE : Sec e0 := ⟨hmac_len _ _, hmac_dig _ _⟩
  have q1 : preNew [.v .nils] := rfl
  have f1 : F21 [.v .nils] = ([], .one (.p (fsS [] e0))) := rfl
  have hob : Obj (.rpc (csS (.rsl 1 0 .u8 []) e0) 0) [] e0 := ⟨_, rfl, part_rsl' (fun x hx => by simp at hx) rfl, rfl, by decide, hE⟩
  have hg := getO_obj hob
  have q2 : preTrf [.v (.rpc (csS (.rsl 1 0 .u8 []) e0) 0), .v (.str lhs2)] := ⟨_, [], e0, _, rfl, hob, lit_dig rfl, by decide⟩
  have q3 : preBeg [.s .u8 []] := ⟨_, rfl, fun x hx => by simp at hx, by decide⟩
  have q4 : pre24 [.s .u8 []] := ⟨_, rfl, fun x hx => by simp at hx, by decide⟩
  have f3 : F22 [.s .u8 []] = .one (.v (.ints .u8 e0)) := rfl
  have f4 : F24 [.s .u8 []] = .one (.v (.ints .u8 (sumS []))) := rfl
  obtain ⟨⟨a1, a2⟩, a3, a4⟩ := aw15
  have ab := aw15b
  have hS := sumS_sec []
  obtain ⟨S, hSS⟩ : ∃ S, sumS [] = S := ⟨_, rfl⟩
  rw [hSS] at hS f4 ab
  have f2 : F28 [.v (.rpc (csS (.rsl 1 0 .u8 []) e0) 0), .v (.str lhs2)] = .many [.v (.ints .u8 (labkey e0 (trfC lhs2) S)), .v (.ints .u8 (labkey e0 (trfS lhs2) S))] := by
    show Out.many [.v (.ints .u8 (labkey (getO (.rpc (csS (.rsl 1 0 .u8 []) e0) 0)).2 (trfC lhs2) (sumS (getO (.rpc (csS (.rsl 1 0 .u8 []) e0) 0)).1))), .v (.ints .u8 (labkey (getO (.rpc (csS (.rsl 1 0 .u8 []) e0) 0)).2 (trfS lhs2) (sumS (getO (.rpc (csS (.rsl 1 0 .u8 []) e0) 0)).1)))] = _
    rw [hg, hSS]
  obtain ⟨e, he⟩ : ∃ e, e0 = e := ⟨_, rfl⟩
  rw [he] at hE f1 q2 f2 f3 a1 a2 a3 a4 ab
  have el := hE.1
  have Sl := hS.1
  have hL : ¬ Lng (trfC lhs2) S := fun h => h.elim (fun h => absurd h (by decide)) (fun h => by rw [Sl] at h; omega)
  have k1 : labkey e (trfC lhs2) S = drv e (trfC lhs2) S := by rw [labkey, if_neg hL]; rfl
  obtain ⟨A, hA1⟩ : ∃ k, labkey e (trfC lhs2) S = k := ⟨_, rfl⟩
  obtain ⟨B, hB⟩ : ∃ k, labkey e (trfS lhs2) S = k := ⟨_, rfl⟩
  have lA : A.length = 32 := by rw [← hA1]; exact (labkey_sec _ _ _).1
  have lB : B.length = 32 := by rw [← hB]; exact (labkey_sec _ _ _).1
  rw [hA1] at f2 k1 ab
  rw [hB] at f2 ab
  have nab : ¬ A = B := of_decide_eq_false ab
  have z : ∀ {Z : List Int}, Z.length = 32 → spl [0, 0, 0, 0, 0, 0, 0, 0, 0, 0, 0, 0, 0, 0, 0, 0, 0, 0, 0, 0, 0, 0, 0, 0, 0, 0, 0, 0, 0, 0, 0, 0] 0 Z = Z := fun h => qc6 (by simp [h])
  have pA := z lA
  have pB := z lB
  have pe := z el
  have pS := z Sl
  have sA : sub A 0 32 = A := qda lA
  have sB : sub B 0 32 = B := qda lB
  have se : sub e 0 32 = e := qda el
  have sS : sub S 0 32 = S := qda Sl
  have q5 : preDrv [.v (.ints .u8 e), .v (.str (trfC lhs2)), .s .u8 S] := ⟨_, _, _, rfl, hE, (trf_dig (lit_dig rfl)).1, by decide, hS.2, by omega⟩
  have s0 : sub ([] : List Int) 0 0 = [] := rfl
  have k1' := k1.symm
  simp only [csS, lhs2, trfC, List.cons_append, List.nil_append] at q2 f2 q5 k1'
  simp only [s21, s28, s24, s22, s25]
  simp only [ir18,rs18,gl1,F18,q1,f1,fsS,injs_ints,blks_ints,cnts_ints,↓frzs_ints,List.length_nil,q2,f2,q3,f3,q4,f4,q5,F25,k1',nab,a1,a2,a3,a4,lA,lB,el,Sl,pA,pB,pe,pS,sA,sB,se,sS,s0,eq_self,qda,qc6,qaj,List.length_cons,List.length_nil,Nat.reduceAdd,Nat.le_refl,Nat.reduceLeDiff,Nat.reduceLT,true_and,and_true,↓qar,↓qao,↓qap,↓qaq,↓qan,↓qak,↓qal,↓qam,idsEs,idsE,idss,killB,effE,stA,deads,nwA,cntA,cnts,cnt,valO,blkO,inj,injs,blk,blks,outA,outR,outE,outEs,sids,List.nodup_cons,List.nodup_nil,List.not_mem_nil,List.mem_cons,or_false,false_or,not_or,↓qax,↓qay,↓qa0,↓qaz,↓qcs,↓qbj,↓qa1,↓qcl,↓qb3,↓qci,↓qcb,↓qce,↓qcf,↓qb4,↓qcd,↓qcj,↓qb5,↓qcg,↓qch,↓qb6,↓qcc,↓qca,↓qb9,↓qb8,↓qb7,↓qa5,↓qbc,↓qa6,↓qbd,↓qa7,↓qbe,↓qa8,↓qbf,↓qa9,↓qbg,↓qba,↓qbh,↓qbb,↓qbi,↓qb2,↓qck,↓qfc,↓qco,↓qcp,↓qcq,↓qcn,↓qcm,↓qbm,↓qbn,↓qb0,↓qbv,↓qbq,↓qbu,↓qbz,↓qbw,↓qby,↓qbx,↓qbr,↓qbp,↓qb1,↓qbs,↓qbt,↓qbo,↓qez,↓qey,↓qe3,↓qe5,↓qe4,↓qex,↓qew,↓qet,↓qeu,↓qe2,↓qe1,↓qe0,qc5,↓qeq,↓qer,↓qev,↓qc4,↓qc2,↓qc3,↓qe7,↓qe8,↓qe9,↓qe6,qaa,↓qes,↓qef,↓qeg,↓qfb,↓qfa,↓qei,↓qdk,↓qds,↓qd9,↓qea,↓qen,↓qeo,↓qdo,↓qdp,↓qdr,↓qdq,↓qdx,↓qep,↓qdv,↓qej,↓qdn,↓qed,↓qek,↓qel,↓qem,↓qd1,↓qd0,↓qd2,↓qd3,↓qd5,↓qdz,↓qd6,↓qd8,↓qd7,↓qdl,↓qdm,↓qdy,↓qaw,↓qdw,↓qee,↓qec,↓qdj,↓qeh,↓qeb,↓qd4,qav,List.drop_zero,Nat.sub_zero,qcy,qct,qcu,qdh,qat,qas,qaf,List.map_cons,List.map_nil,List.zip_cons_cons,List.zip_nil_right,List.zip_nil_left,qau,evs,evp,mkB,repB,blen,qae,qad,qac,qab,qc1,qc0,qdg,qdi,qde,qdf,qcx,qcz,qcv,qcw,↓qdc,↓qdb,↓qdd,↓qah,↓qag,↓qai,↓retQ,res,resAll,resOne,kill,apartOk,exp,injV,injB,pur,purs,purR,pursR,List.set_cons_zero,List.set_cons_succ,List.length_cons,List.length_nil,List.cons_append,List.nil_append,List.append_nil,List.append_assoc,List.length_append,List.reduceReplicate,Nat.reduceAdd,Nat.reduceMul,Nat.reduceSub,Nat.reduceEqDiff,Nat.reduceLT,Nat.zero_add,Nat.add_zero,Nat.mul_one,Int.reduceToNat,Int.toNat_natCast,Int.cast_ofNat_Int,Int.reduceLE,Int.reduceLT,Int.reduceEq,reduceCtorEq,↓reduceIte,Bool.true_eq_false,Bool.false_eq_true,Bool.not_true,Bool.not_false,true_and,and_true,and_assoc,qaj,sub1,qc8,qc7,qc9,List.length_replicate,Nat.le_refl,false_implies,true_implies,ne_eq,not_true_eq_false,not_false_eq_true,decide_true,decide_false,decide_eq_true_eq,decide_eq_false_iff_not,Bool.not_eq_true',Bool.not_eq_false']
  repeat (refine And.intro (by omega) ?_)
  simp only [out, outs, out1, pur, and_self]
theorem lawSecretsFinished : ∀ ds, preSS ds → Does Tryd.prog gl1 4 (injV ds 4) (gl1 ++ injB true ds) (out (4 + (injB true ds).length) (FTrue15 ds)) := by
  refine fdoesA (l := [(18, s18), (19, s19), (20, s20)]) mixed gl1_plain rfl Tryd.func4 comp4 compR4 nt4 (by simp only [List.mem_cons, List.not_mem_nil, or_false, forall_eq_or_imp, forall_eq]; exact ⟨ok18, ok19, ok20⟩) fun ds ⟨s, m, hd, hs, hm⟩ hA => ?_
  subst hd
  have hsl := hs.1
  have hml := hm.1
  have ss : sub s 0 32 = s := qda hsl
  have sm : sub m 0 32 = m := qda hml
  have q1 : preSS [.v (.ints .u8 s), .v (.ints .u8 m)] := ⟨_, _, rfl, hs, hm⟩
  have pA : pre18 [] := rfl
  have rl : (finS s m).length = 32 := hmac_len _ _
  simp only [s18, s19, s20]
  simp only [ir4,rs4,gl1,FTrue15,pA,hsl,hml,ss,sm,q1,rl,eq_self,s18,s19,s20,F18,F19,F20,qda,qc6,qaj,List.length_cons,List.length_nil,Nat.reduceAdd,Nat.le_refl,Nat.reduceLeDiff,Nat.reduceLT,true_and,and_true,↓qax,↓qay,↓qa0,↓qaz,↓qcs,↓qbj,↓qa1,↓qcl,↓qb3,↓qci,↓qcb,↓qce,↓qcf,↓qb4,↓qcd,↓qcj,↓qb5,↓qcg,↓qch,↓qb6,↓qcc,↓qca,↓qb9,↓qb8,↓qb7,↓qa5,↓qbc,↓qa6,↓qbd,↓qa7,↓qbe,↓qa8,↓qbf,↓qa9,↓qbg,↓qba,↓qbh,↓qbb,↓qbi,↓qb2,↓qck,↓qfc,↓qco,↓qcp,↓qcq,↓qcn,↓qcm,↓qbm,↓qbn,↓qb0,↓qbv,↓qbq,↓qbu,↓qbz,↓qbw,↓qby,↓qbx,↓qbr,↓qbp,↓qb1,↓qbs,↓qbt,↓qbo,↓qez,↓qey,↓qe3,↓qe5,↓qe4,↓qex,↓qew,↓qet,↓qeu,↓qe2,↓qe1,↓qe0,qc5,↓qeq,↓qer,↓qev,↓qc4,↓qc2,↓qc3,↓qe7,↓qe8,↓qe9,↓qe6,qaa,↓qes,↓qef,↓qeg,↓qfb,↓qfa,↓qei,↓qdk,↓qds,↓qd9,↓qea,↓qen,↓qeo,↓qdo,↓qdp,↓qdr,↓qdq,↓qdx,↓qep,↓qdv,↓qej,↓qdn,↓qed,↓qek,↓qel,↓qem,↓qd1,↓qd0,↓qd2,↓qd3,↓qd5,↓qdz,↓qd6,↓qd8,↓qd7,↓qdl,↓qdm,↓qdy,↓qaw,↓qdw,↓qee,↓qec,↓qdj,↓qeh,↓qeb,↓qd4,qav,List.drop_zero,Nat.sub_zero,qcy,qct,qcu,qdh,qat,qas,qaf,List.map_cons,List.map_nil,List.zip_cons_cons,List.zip_nil_right,List.zip_nil_left,qau,evs,evp,mkB,repB,blen,qae,qad,qac,qab,qc1,qc0,qdg,qdi,qde,qdf,qcx,qcz,qcv,qcw,↓qdc,↓qdb,↓qdd,↓qah,↓qag,↓qai,↓retQ,res,resAll,resOne,kill,apartOk,exp,injV,injB,pur,purs,purR,pursR,List.set_cons_zero,List.set_cons_succ,List.length_cons,List.length_nil,List.cons_append,List.nil_append,List.append_nil,List.append_assoc,List.length_append,List.reduceReplicate,Nat.reduceAdd,Nat.reduceMul,Nat.reduceSub,Nat.reduceEqDiff,Nat.reduceLT,Nat.zero_add,Nat.add_zero,Nat.mul_one,Int.reduceToNat,Int.toNat_natCast,Int.cast_ofNat_Int,Int.reduceLE,Int.reduceLT,Int.reduceEq,reduceCtorEq,↓reduceIte,Bool.true_eq_false,Bool.false_eq_true,Bool.not_true,Bool.not_false,true_and,and_true,and_assoc,qaj,sub1,qc8,qc7,qc9,List.length_replicate,Nat.le_refl,false_implies,true_implies,ne_eq,not_true_eq_false,not_false_eq_true,decide_true,decide_false,decide_eq_true_eq,decide_eq_false_iff_not,Bool.not_eq_true',Bool.not_eq_false']
  repeat (refine And.intro (by omega) ?_)
  simp only [out, outs, out1, pur, and_self]
end Am
