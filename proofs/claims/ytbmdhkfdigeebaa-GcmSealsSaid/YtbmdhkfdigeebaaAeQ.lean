/-
Working texts: contracts of functions, and the numbers behind them.
-/
import Derived.Test.YtbmdhkfdigeebaaAeP
set_option linter.unusedSimpArgs false
set_option linter.unusedVariables false
set_option linter.unusedSectionVars false
set_option linter.unusedSimpArgs false
set_option linter.unusedVariables false
set_option maxRecDepth 20000
namespace Am
open Go.Proofs
/-! ### A block, by a key -/
theorem frzs_ints {hp : List Blk} {d : Nat} {k : Go.IntKind} : ∀ {xs : List Int} {J : List V → Prop}, frzs (frz hp (d + 1)) (xs.map (V.int k)) J = J (xs.map (V.int k))
  | [], J => by rw [List.map_nil, frzs]
  | x :: xs, J => by rw [List.map_cons, frzs, qbr, frzs_ints (xs := xs)]
theorem new_ok {k : List Int} (h : B16 k) : L432 (newF k) := keys_ok (bxs_ok h.1 h.2 256) 10
theorem enc_ok {k b : List Int} (h : B16 k) (hb : B16 b) : B16 (encF (newF k) b) := rnds_ok (new_ok h) hb 10
def preEncB (ds : List D) : Prop := ∃ k b : List Int, ds = [.v (.ints .u8 k), .v (.ints .u8 b)] ∧ B16 k ∧ B16 b
def F14 : List D → Out
  | [.v (.ints _ k), .v (.ints _ b)] => .one (.v (.ints .u8 (encF (newF k) b)))
  | _ => bad
def s14 : Summ := sData [.v, .v] preEncB F14
set_option maxHeartbeats 4000000 in
theorem ok14 {g : List Blk} [Ge gl g] : SumOK Try.prog g 14 s14 ∧ SumAbs s14 := by
  refine fsumA (l := [(17, s17), (18, s18)]) mixed gl_plain rfl Try.func14 comp14 compR14 nt14 (by simp only [List.mem_cons, List.not_mem_nil, or_false, forall_eq_or_imp, forall_eq]; exact ⟨ok17, ok18⟩) fun ds ⟨k, b, hd, hk, hb⟩ hA => ?_
  subst hd
  have hkl := hk.1
  have hbl := hb.1
  have sk : sub k 0 16 = k := qdk hkl
  have sb : sub b 0 16 = b := qdk hbl
  have q1 : preBlk [.v (.ints .u8 k)] := ⟨k, rfl, hk.1, hk.2⟩
  have hL := new_ok hk
  have hR := enc_ok hk hb
  have e1 : F17 [.v (.ints .u8 k)] = ([], .one (.p ((newF k).map fun x => .v (.int .u8 x)))) := rfl
  have e3 : F14 [.v (.ints .u8 k), .v (.ints .u8 b)] = .one (.v (.ints .u8 (encF (newF k) b))) := rfl
  obtain ⟨L, hLe⟩ : ∃ L, newF k = L := ⟨_, rfl⟩
  rw [hLe] at hL hR e1 e3
  have q2 : preEnc [.v (.rpc (L.map (V.int .u8)) 0), .v (.ints .u8 b)] := ⟨L, b, rfl, hL, hb⟩
  have e2 : F18 [.v (.rpc (L.map (V.int .u8)) 0), .v (.ints .u8 b)] = .one (.v (.ints .u8 (encF L b))) := by
    show Out.one (.v (.ints .u8 (encF (unI (L.map (V.int .u8))) b))) = _
    rw [unI_ints]
  obtain ⟨R, hRe⟩ : ∃ R, encF L b = R := ⟨_, rfl⟩
  rw [hRe] at hR e2 e3
  have hRl := hR.1
  have sR : sub R 0 16 = R := qdk hRl
  have pR : spl [0, 0, 0, 0, 0, 0, 0, 0, 0, 0, 0, 0, 0, 0, 0, 0] 0 R = R := qdg (by simp [hRl])
  simp only [s17, s18]
  simp only [ir14,rs14,gl,sk,sb,hkl,hbl,q1,q2,e1,e2,e3,hRl,sR,pR,s17,s18,injs_ints,blks_ints,cnts_ints,↓frzs_ints,qdk,qdg,qaj,List.length_cons,List.length_nil,Nat.reduceAdd,Nat.le_refl,Nat.reduceLeDiff,Nat.reduceLT,true_and,and_true,↓qar,↓qao,↓qap,↓qaq,↓qan,↓qak,↓qal,↓qam,idsEs,idsE,idss,killB,effE,stA,deads,nwA,cntA,cnts,cnt,valO,blkO,inj,injs,blk,blks,outA,outR,outE,outEs,sids,List.nodup_cons,List.nodup_nil,List.not_mem_nil,List.mem_cons,or_false,false_or,not_or,↓qax,↓qay,↓qa0,↓qaz,↓qcy,↓qbj,↓qa1,↓qcr,↓qb3,↓qco,↓qcb,↓qck,↓qcl,↓qb4,↓qcj,↓qcp,↓qb5,↓qcm,↓qcn,↓qb6,↓qcc,↓qca,↓qb9,↓qb8,↓qb7,↓qa5,↓qbc,↓qa6,↓qbd,↓qa7,↓qbe,↓qa8,↓qbf,↓qa9,↓qbg,↓qba,↓qbh,↓qbb,↓qbi,↓qb2,↓qcq,↓qfq,↓qcu,↓qcv,↓qcw,↓qct,↓qcs,↓qbm,↓qbn,↓qb0,↓qbv,↓qbq,↓qbu,↓qbz,↓qbw,↓qby,↓qbx,↓qbr,↓qbp,↓qb1,↓qbs,↓qbt,↓qbo,↓qfd,↓qfc,↓qfh,↓qfj,↓qfi,↓qfb,↓qfa,↓qe7,↓qe8,↓qfg,↓qff,↓qfe,qdf,↓qe4,↓qe5,↓qe9,↓qdc,↓qda,↓qdb,↓qfl,↓qfm,↓qfn,↓qfk,qaa,↓qe6,↓qer,↓qes,↓qfp,↓qfo,↓qev,↓qdu,↓qd2,↓qej,↓qek,↓qe0,↓qe2,↓qdy,↓qdz,↓qd1,↓qd0,↓qd7,↓qe3,↓qd5,↓qew,↓qdx,↓qep,↓qex,↓qey,↓qez,↓qeb,↓qea,↓qec,↓qed,↓qef,↓qd9,↓qeg,↓qei,↓qeh,↓qdv,↓qdw,↓qd8,↓qaw,↓qd6,↓qeq,↓qem,↓qdt,↓qet,↓qen,↓qeo,↓qeu,↓qcd,↓qce,↓qcf,↓qcg,↓qch,↓qci,qdd,qde,qc1,qc2,↓qel,↓qee,qav,List.drop_zero,Nat.sub_zero,qc6,qcz,qc0,qdr,qat,qas,qaf,List.map_cons,List.map_nil,List.zip_cons_cons,List.zip_nil_right,List.zip_nil_left,qau,evs,evp,mkB,repB,blen,qae,qad,qac,qab,qc9,qc8,qdq,qds,qdo,qdp,qc5,qc7,qc3,qc4,↓qdm,↓qdl,↓qdn,↓qah,↓qag,↓qai,↓retQ,res,resAll,resOne,kill,apartOk,exp,injV,injB,pur,purs,purR,pursR,List.set_cons_zero,List.set_cons_succ,List.length_cons,List.length_nil,List.cons_append,List.nil_append,List.append_nil,List.append_assoc,List.length_append,List.reduceReplicate,Nat.reduceAdd,Nat.reduceMul,Nat.reduceSub,Nat.reduceEqDiff,Nat.reduceLT,Nat.zero_add,Nat.add_zero,Nat.mul_one,Int.reduceToNat,Int.toNat_natCast,Int.cast_ofNat_Int,Int.reduceLE,Int.reduceLT,Int.reduceEq,reduceCtorEq,↓reduceIte,Bool.true_eq_false,Bool.false_eq_true,Bool.not_true,Bool.not_false,true_and,and_true,and_assoc,qaj,sub1,qdi,qdh,qdj,List.length_replicate,Nat.le_refl,false_implies,true_implies,ne_eq,not_true_eq_false,not_false_eq_true,decide_true,decide_false,decide_eq_true_eq,decide_eq_false_iff_not,Bool.not_eq_true',Bool.not_eq_false']
  repeat (refine And.intro (by omega) ?_)
  simp only [out, outs, out1, pur, and_self]
end Am
