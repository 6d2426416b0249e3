/-
Working texts: contracts of functions, and the numbers behind them.
-/
import Derived.Test.YtbmdhkfdigeebaaGcA
set_option linter.unusedSimpArgs false
set_option linter.unusedVariables false
set_option linter.unusedSectionVars false
set_option linter.unusedSimpArgs false
set_option linter.unusedVariables false
set_option maxRecDepth 20000
namespace Am
open Go.Proofs
/-! ### The hash of two texts -/
def chk (xs : List Int) (m : Nat) : List Int := spl z16 0 (sub xs (16 * m) 16)
def hstS (h : Int × Int) (xs : List Int) (y : Int × Int) (m : Nat) : Int × Int :=
  timF (bXor .u64 y.1 (ofF (chk xs m)).1) (bXor .u64 y.2 (ofF (chk xs m)).2) h.1 h.2
def nbl (xs : List Int) : Nat := (xs.length + 15) / 16
def hshB (h : Int × Int) (y : Int × Int) (xs : List Int) : Int × Int := itr (hstS h xs) y (nbl xs)
def bitl (xs : List Int) : Int := Go.IntKind.u64.wrap (Go.IntKind.u64.wrap xs.length * 8)
def pP (a b : List Int) (n : Nat) : List Int := if n = 0 then a else b
def hsS (h : Int × Int) (a b : List Int) (s : (Int × Int) × (Int × Int)) (n : Nat) : (Int × Int) × (Int × Int) :=
  (hshB h s.1 (pP a b n), if n = 0 then (bitl (pP a b n), s.2.2) else (s.2.1, bitl (pP a b n)))
def hsI (h : Int × Int) (a b : List Int) (n : Nat) : (Int × Int) × (Int × Int) := itr (hsS h a b) ((0, 0), (0, 0)) n
def fin2 (h : Int × Int) (s : (Int × Int) × (Int × Int)) : Int × Int := timF (bXor .u64 s.1.1 s.2.1) (bXor .u64 s.1.2 s.2.2) h.1 h.2
def hashF (key a b : List Int) : List Int := blkF (fin2 (ofF key) (hsI (ofF key) a b 2)).1 (fin2 (ofF key) (hsI (ofF key) a b 2)).2
theorem sub_dig' {xs : List Int} {o n : Nat} (h : Dig 256 xs) : Dig 256 (sub xs o n) := fun x hx => h x (List.mem_of_mem_drop (List.mem_of_mem_take hx))
theorem chk_ok {xs : List Int} (h : Dig 256 xs) (m : Nat) : B16 (chk xs m) := by
  have hz : Dig 256 z16 := fun x hx => by rw [(List.mem_replicate.1 hx).2]; decide
  have hs : Dig 256 (sub xs (16 * m) 16) := sub_dig' h
  refine ⟨?_, ?_⟩
  · simp [chk, spl, sub, z16]; omega
  · intro x hx
    simp only [chk, spl, List.mem_append] at hx
    rcases hx with hx | hx | hx
    · exact hz x (List.mem_of_mem_take hx)
    · exact hs x hx
    · exact hz x (List.mem_of_mem_drop hx)
def preHsh (ds : List D) : Prop := ∃ key a b : List Int, ds = [.v (.ints .u8 key), .v (.rcs 1 2 [.rsl 1 a.length .u8 a, .rsl 1 b.length .u8 b])] ∧ B16 key ∧ Dig 256 a ∧ Dig 256 b ∧ a.length ≤ 549755813888 ∧ b.length ≤ 549755813888
def F36 : List D → Out
  | [.v (.ints _ key), .v (.rcs _ _ [.rsl _ _ _ a, .rsl _ _ _ b])] => .one (.v (.ints .u8 (hashF key a b)))
  | _ => bad
def s36 : Summ := sData [.v, .r] preHsh F36
theorem blkF_ok (x y : Int) : B16 (blkF x y) := blkS_ok 8
set_option maxHeartbeats 4000000 in
theorem ok36 {g : List Blk} [Ge gl g] : SumOK Try.prog g 36 s36 ∧ SumAbs s36 := by
  refine fsumA (l := [(38, s38), (39, s39), (40, s40)]) mixed gl_plain rfl Try.func36 comp36 compR36 nt36 (by simp only [List.mem_cons, List.not_mem_nil, or_false, forall_eq_or_imp, forall_eq]; exact ⟨ok38, ok39, ok40⟩) fun ds ⟨key, a, b, hd, hk, ha, hb, hal, hbl⟩ hA => ?_
  subst hd
  have hkl := hk.1
  have hF : F36 [.v (.ints .u8 key), .v (.rcs 1 2 [.rsl 1 a.length .u8 a, .rsl 1 b.length .u8 b])] = .one (.v (.ints .u8 (hashF key a b))) := rfl
  have sk : sub key 0 16 = key := qdk hkl
  have qk : preOf [.v (.ints .u8 key)] := ⟨_, rfl, hk⟩
  have fk : F38 [.v (.ints .u8 key)] = .one (.v (.ints .u64 [(ofF key).1, (ofF key).2])) := rfl
  have hnth : ∀ n, n < 2 → nth [.rsl 1 a.length .u8 a, .rsl 1 b.length .u8 b] n = .rsl 1 (pP a b n).length .u8 (pP a b n) := fun n hn => by
    rcases (by omega : n = 0 ∨ n = 1) with rfl | rfl <;> simp [nth, pP]
  have hP : ∀ n, Dig 256 (pP a b n) ∧ (pP a b n).length ≤ 549755813888 := fun n => by
    unfold pP; split
    · exact ⟨ha, hal⟩
    · exact ⟨hb, hbl⟩
  have hR : blkF (fin2 (ofF key) (hsI (ofF key) a b 2)).1 (fin2 (ofF key) (hsI (ofF key) a b 2)).2 = hashF key a b := rfl
  obtain ⟨h, hh⟩ : ∃ h, ofF key = h := ⟨_, rfl⟩
  rw [hh] at hR fk
  obtain ⟨R, hRR⟩ : ∃ R, hashF key a b = R := ⟨_, rfl⟩
  rw [hRR] at hR hF
  obtain ⟨cs, hcs⟩ : ∃ cs, [V.rsl 1 a.length .u8 a, .rsl 1 b.length .u8 b] = cs := ⟨_, rfl⟩
  have hcl : cs.length = 2 := by rw [← hcs]; rfl
  rw [hcs] at hF
  simp only [hcs] at hnth
  have s2 : ∀ x y : Int, sub [x, y] 0 2 = [x, y] := fun _ _ => rfl
  have p2 : ∀ x y u v : Int, spl [x, y] 0 [u, v] = [u, v] := fun _ _ _ _ => rfl
  simp only [hcs, s38, s39, s40]
  simp only [ir36,rs36,gl,hF,sk,hkl,qk,fk,p2,qdk,qdg,qaj,List.length_cons,List.length_nil,Nat.reduceAdd,Nat.le_refl,Nat.reduceLeDiff,Nat.reduceLT,true_and,and_true,↓qax,↓qay,↓qa0,↓qaz,↓qcy,↓qbj,↓qa1,↓qcr,↓qb3,↓qco,↓qcb,↓qck,↓qcl,↓qb4,↓qcj,↓qcp,↓qb5,↓qcm,↓qcn,↓qb6,↓qcc,↓qca,↓qb9,↓qb8,↓qb7,↓qa5,↓qbc,↓qa6,↓qbd,↓qa7,↓qbe,↓qa8,↓qbf,↓qa9,↓qbg,↓qba,↓qbh,↓qbb,↓qbi,↓qb2,↓qcq,↓qfq,↓qcu,↓qcv,↓qcw,↓qct,↓qcs,↓qbm,↓qbn,↓qb0,↓qbv,↓qbq,↓qbu,↓qbz,↓qbw,↓qby,↓qbx,↓qbr,↓qbp,↓qb1,↓qbs,↓qbt,↓qbo,↓qfd,↓qfc,↓qfh,↓qfj,↓qfi,↓qfb,↓qfa,↓qe7,↓qe8,↓qfg,↓qff,↓qfe,qdf,↓qe4,↓qe5,↓qe9,↓qdc,↓qda,↓qdb,↓qfl,↓qfm,↓qfn,↓qfk,qaa,↓qe6,↓qer,↓qes,↓qfp,↓qfo,↓qev,↓qdu,↓qd2,↓qej,↓qek,↓qe0,↓qe2,↓qdy,↓qdz,↓qd1,↓qd0,↓qd7,↓qe3,↓qd5,↓qew,↓qdx,↓qep,↓qex,↓qey,↓qez,↓qeb,↓qea,↓qec,↓qed,↓qef,↓qd9,↓qeg,↓qei,↓qeh,↓qdv,↓qdw,↓qd8,↓qaw,↓qd6,↓qeq,↓qem,↓qdt,↓qet,↓qen,↓qeo,↓qeu,↓qcd,↓qce,↓qcf,↓qcg,↓qch,↓qci,qdd,qde,qc1,qc2,↓qel,↓qee,qav,List.drop_zero,Nat.sub_zero,qc6,qcz,qc0,qdr,qat,qas,qaf,List.map_cons,List.map_nil,List.zip_cons_cons,List.zip_nil_right,List.zip_nil_left,qau,evs,evp,mkB,repB,blen,qae,qad,qac,qab,qc9,qc8,qdq,qds,qdo,qdp,qc5,qc7,qc3,qc4,↓qdm,↓qdl,↓qdn,↓qah,↓qag,↓qai,↓retQ,res,resAll,resOne,kill,apartOk,exp,injV,injB,pur,purs,purR,pursR,List.set_cons_zero,List.set_cons_succ,List.length_cons,List.length_nil,List.cons_append,List.nil_append,List.append_nil,List.append_assoc,List.length_append,List.reduceReplicate,Nat.reduceAdd,Nat.reduceMul,Nat.reduceSub,Nat.reduceEqDiff,Nat.reduceLT,Nat.zero_add,Nat.add_zero,Nat.mul_one,Int.reduceToNat,Int.toNat_natCast,Int.cast_ofNat_Int,Int.reduceLE,Int.reduceLT,Int.reduceEq,reduceCtorEq,↓reduceIte,Bool.true_eq_false,Bool.false_eq_true,Bool.not_true,Bool.not_false,true_and,and_true,and_assoc,qaj,sub1,qdi,qdh,qdj,List.length_replicate,Nat.le_refl,false_implies,true_implies,ne_eq,not_true_eq_false,not_false_eq_true,decide_true,decide_false,decide_eq_true_eq,decide_eq_false_iff_not,Bool.not_eq_true',Bool.not_eq_false']
  refine awp_loopA (n := 81) hA [4, 5, 6, 7, 16, 17, 18] (by decide +kernel) (fun n : Nat => [.ptr 5 0, .ptr 6 0, .ptr 7 0, .ptr 8 0, .rcs 1 2 cs, .int .i64 2, .int .i64 n])
    (fun n => [.dead, .dead, .dead, .dead, .ints false .u8 key, .ints false .u8 [0, 0, 0, 0, 0, 0, 0, 0, 0, 0, 0, 0, 0, 0, 0, 0], .ints false .u64 [(hsI h a b n).1.1, (hsI h a b n).1.2], .ints false .u64 [h.1, h.2], .ints false .u64 [(hsI h a b n).2.1, (hsI h a b n).2.2]]) (fun n => n ≤ 2) (fun n => 2 - n) 0 ?_ (by omega) ?_
  · refine Hd.same ?_
    simp only [hsI, itr, show ((2 : Nat) : Int) = 2 from rfl, List.map_cons, List.map_nil, Nat.reduceLT, qc6, qcz, qc0, reduceCtorEq, ↓reduceIte, Nat.reduceEqDiff, Int.cast_ofNat_Int, List.append_nil, List.cons_append, List.nil_append, qaf, and_true, true_and, Nat.zero_add, Nat.add_zero, Nat.reduceAdd, qc3, qc4, List.reduceReplicate]
  intro n hn K hK
  by_cases hlt : n < 2
  · have c1 : (n : Int) < 2 := by omega
    have wi : Go.IntKind.i64.wrap ((n : Int) + 1) = ((n + 1 : Nat) : Int) := by rw [wrap_i64]; omega
    have hx : hsI h a b (n + 1) = hsS h a b (hsI h a b n) n := rfl
    obtain ⟨s, hs⟩ : ∃ s, hsI h a b n = s := ⟨_, rfl⟩
    rw [hs] at hx
    rw [hs]
    have hn1 := hnth n hlt
    obtain ⟨hxd, hxl⟩ := hP n
    obtain ⟨xs, hxs⟩ : ∃ xs, pP a b n = xs := ⟨_, rfl⟩
    simp only [hsS, hxs] at hx
    rw [hxs] at hn1 hxd hxl
    simp only [s38, s39, s40]
    simp only [c1,hlt,hn1,hcl,qdk,qdg,qaj,List.length_cons,List.length_nil,Nat.reduceAdd,Nat.le_refl,Nat.reduceLeDiff,Nat.reduceLT,true_and,and_true,↓qax,↓qay,↓qa0,↓qaz,↓qcy,↓qbj,↓qa1,↓qcr,↓qb3,↓qco,↓qcb,↓qck,↓qcl,↓qb4,↓qcj,↓qcp,↓qb5,↓qcm,↓qcn,↓qb6,↓qcc,↓qca,↓qb9,↓qb8,↓qb7,↓qa5,↓qbc,↓qa6,↓qbd,↓qa7,↓qbe,↓qa8,↓qbf,↓qa9,↓qbg,↓qba,↓qbh,↓qbb,↓qbi,↓qb2,↓qcq,↓qfq,↓qcu,↓qcv,↓qcw,↓qct,↓qcs,↓qbm,↓qbn,↓qb0,↓qbv,↓qbq,↓qbu,↓qbz,↓qbw,↓qby,↓qbx,↓qbr,↓qbp,↓qb1,↓qbs,↓qbt,↓qbo,↓qfd,↓qfc,↓qfh,↓qfj,↓qfi,↓qfb,↓qfa,↓qe7,↓qe8,↓qfg,↓qff,↓qfe,qdf,↓qe4,↓qe5,↓qe9,↓qdc,↓qda,↓qdb,↓qfl,↓qfm,↓qfn,↓qfk,qaa,↓qe6,↓qer,↓qes,↓qfp,↓qfo,↓qev,↓qdu,↓qd2,↓qej,↓qek,↓qe0,↓qe2,↓qdy,↓qdz,↓qd1,↓qd0,↓qd7,↓qe3,↓qd5,↓qew,↓qdx,↓qep,↓qex,↓qey,↓qez,↓qeb,↓qea,↓qec,↓qed,↓qef,↓qd9,↓qeg,↓qei,↓qeh,↓qdv,↓qdw,↓qd8,↓qaw,↓qd6,↓qeq,↓qem,↓qdt,↓qet,↓qen,↓qeo,↓qeu,↓qcd,↓qce,↓qcf,↓qcg,↓qch,↓qci,qdd,qde,qc1,qc2,↓qel,↓qee,qav,List.drop_zero,Nat.sub_zero,qc6,qcz,qc0,qdr,qat,qas,qaf,List.map_cons,List.map_nil,List.zip_cons_cons,List.zip_nil_right,List.zip_nil_left,qau,evs,evp,mkB,repB,blen,qae,qad,qac,qab,qc9,qc8,qdq,qds,qdo,qdp,qc5,qc7,qc3,qc4,↓qdm,↓qdl,↓qdn,↓qah,↓qag,↓qai,↓retQ,res,resAll,resOne,kill,apartOk,exp,injV,injB,pur,purs,purR,pursR,List.set_cons_zero,List.set_cons_succ,List.length_cons,List.length_nil,List.cons_append,List.nil_append,List.append_nil,List.append_assoc,List.length_append,List.reduceReplicate,Nat.reduceAdd,Nat.reduceMul,Nat.reduceSub,Nat.reduceEqDiff,Nat.reduceLT,Nat.zero_add,Nat.add_zero,Nat.mul_one,Int.reduceToNat,Int.toNat_natCast,Int.cast_ofNat_Int,Int.reduceLE,Int.reduceLT,Int.reduceEq,reduceCtorEq,↓reduceIte,Bool.true_eq_false,Bool.false_eq_true,Bool.not_true,Bool.not_false,true_and,and_true,and_assoc,qaj,sub1,qdi,qdh,qdj,List.length_replicate,Nat.le_refl,false_implies,true_implies,ne_eq,not_true_eq_false,not_false_eq_true,decide_true,decide_false,decide_eq_true_eq,decide_eq_false_iff_not,Bool.not_eq_true',Bool.not_eq_false']
    refine ⟨by omega, ?_⟩
    refine awp_loopA (n := 81) hA [4, 5, 6, 7, 8, 9, 10, 16, 17, 18] (by decide +kernel) (fun m : Nat => [.ptr 5 0, .ptr 6 0, .ptr 7 0, .ptr 8 0, .int .i64 n, .rsl 1 xs.length .u8 xs, .int .i64 ((16 * m : Nat) : Int), .rcs 1 2 cs, .int .i64 2, .int .i64 n])
      (fun m => [.dead, .dead, .dead, .dead, .ints false .u8 key, .ints false .u8 [0, 0, 0, 0, 0, 0, 0, 0, 0, 0, 0, 0, 0, 0, 0, 0], .ints false .u64 [(itr (hstS h xs) s.1 m).1, (itr (hstS h xs) s.1 m).2], .ints false .u64 [h.1, h.2], .ints false .u64 [s.2.1, s.2.2]]) (fun m => m ≤ nbl xs) (fun m => nbl xs - m) 0 ?_ (by omega) ?_
    · refine Hd.same ?_
      simp only [itr, show ((16 * 0 : Nat) : Int) = 0 from rfl, List.map_cons, List.map_nil, Nat.reduceLT, qc6, qcz, qc0, reduceCtorEq, ↓reduceIte, Nat.reduceEqDiff, Int.cast_ofNat_Int, List.append_nil, List.cons_append, List.nil_append, qaf, and_true, true_and, Nat.zero_add, Nat.add_zero, Nat.reduceAdd, qc3, qc4, List.reduceReplicate]
    intro m hm K2 hK2
    simp only [s38, s39, s40]
    unfold nbl at hm hK2
    by_cases hlm : 16 * m < xs.length
    · have c2 : ((16 * m : Nat) : Int) < (xs.length : Int) := by omega
      have w16 : Go.IntKind.i64.wrap (((16 * m : Nat) : Int) + 16) = ((16 * (m + 1) : Nat) : Int) := by rw [wrap_i64]; omega
      obtain ⟨e, he⟩ : ∃ e, min (16 * (m + 1)) xs.length = e := ⟨_, rfl⟩
      have hmin : min ((16 * (m + 1) : Nat) : Int) (xs.length : Int) = (e : Int) := by omega
      have e1 : 16 * m ≤ e := by omega
      have e2 : e ≤ xs.length := by omega
      have e3 : e - 16 * m ≤ 16 := by omega
      have hc : spl [0, 0, 0, 0, 0, 0, 0, 0, 0, 0, 0, 0, 0, 0, 0, 0] 0 ((sub xs (16 * m) (e - 16 * m)).take (min (e - 16 * m) 16)) = chk xs m := by
        have : (sub xs (16 * m) (e - 16 * m)).take (min (e - 16 * m) 16) = sub xs (16 * m) 16 := by
          simp only [sub, List.take_take]
          by_cases h : 16 * (m + 1) ≤ xs.length
          · congr 1; omega
          · rw [List.take_of_length_le (by simp; omega), List.take_of_length_le (by simp; omega)]
        rw [this]; rfl
      have hC := chk_ok hxd m
      have hst : itr (hstS h xs) s.1 (m + 1) = hstS h xs (itr (hstS h xs) s.1 m) m := rfl
      obtain ⟨y, hy⟩ : ∃ y, itr (hstS h xs) s.1 m = y := ⟨_, rfl⟩
      rw [hy] at hst ⊢
      have ft : F39 [.v (.ints .u64 [bXor .u64 y.1 (ofF (chk xs m)).1, bXor .u64 y.2 (ofF (chk xs m)).2]), .v (.ints .u64 [h.1, h.2])] = .one (.v (.ints .u64 [(hstS h xs y m).1, (hstS h xs y m).2])) := rfl
      obtain ⟨y', hy'⟩ : ∃ y', hstS h xs y m = y' := ⟨_, rfl⟩
      rw [hy'] at hst ft
      have fo : F38 [.v (.ints .u8 (chk xs m))] = .one (.v (.ints .u64 [(ofF (chk xs m)).1, (ofF (chk xs m)).2])) := rfl
      obtain ⟨C, hCe⟩ : ∃ C, chk xs m = C := ⟨_, rfl⟩
      rw [hCe] at hc hC ft fo
      have hCl := hC.1
      have sC : sub C 0 16 = C := qdk hCl
      have qC : preOf [.v (.ints .u8 C)] := ⟨_, rfl, hC⟩
      obtain ⟨o, ho⟩ : ∃ o, ofF C = o := ⟨_, rfl⟩
      rw [ho] at ft fo
      have qt : preHalf2 [.v (.ints .u64 [bXor .u64 y.1 o.1, bXor .u64 y.2 o.2]), .v (.ints .u64 [h.1, h.2])] := ⟨_, _, _, _, rfl⟩
      have hl : ∀ l : List Int, (sub xs (16 * m) (e - 16 * m)).length = l.length → True := fun _ _ => trivial
      simp only [c2,w16,hmin,e1,e2,hc,hCl,sC,qC,fo,qt,ft,s2,p2,getI2_0,getI2_1,qdk,qdg,qaj,List.length_cons,List.length_nil,Nat.reduceAdd,Nat.le_refl,Nat.reduceLeDiff,Nat.reduceLT,true_and,and_true,↓qax,↓qay,↓qa0,↓qaz,↓qcy,↓qbj,↓qa1,↓qcr,↓qb3,↓qco,↓qcb,↓qck,↓qcl,↓qb4,↓qcj,↓qcp,↓qb5,↓qcm,↓qcn,↓qb6,↓qcc,↓qca,↓qb9,↓qb8,↓qb7,↓qa5,↓qbc,↓qa6,↓qbd,↓qa7,↓qbe,↓qa8,↓qbf,↓qa9,↓qbg,↓qba,↓qbh,↓qbb,↓qbi,↓qb2,↓qcq,↓qfq,↓qcu,↓qcv,↓qcw,↓qct,↓qcs,↓qbm,↓qbn,↓qb0,↓qbv,↓qbq,↓qbu,↓qbz,↓qbw,↓qby,↓qbx,↓qbr,↓qbp,↓qb1,↓qbs,↓qbt,↓qbo,↓qfd,↓qfc,↓qfh,↓qfj,↓qfi,↓qfb,↓qfa,↓qe7,↓qe8,↓qfg,↓qff,↓qfe,qdf,↓qe4,↓qe5,↓qe9,↓qdc,↓qda,↓qdb,↓qfl,↓qfm,↓qfn,↓qfk,qaa,↓qe6,↓qer,↓qes,↓qfp,↓qfo,↓qev,↓qdu,↓qd2,↓qej,↓qek,↓qe0,↓qe2,↓qdy,↓qdz,↓qd1,↓qd0,↓qd7,↓qe3,↓qd5,↓qew,↓qdx,↓qep,↓qex,↓qey,↓qez,↓qeb,↓qea,↓qec,↓qed,↓qef,↓qd9,↓qeg,↓qei,↓qeh,↓qdv,↓qdw,↓qd8,↓qaw,↓qd6,↓qeq,↓qem,↓qdt,↓qet,↓qen,↓qeo,↓qeu,↓qcd,↓qce,↓qcf,↓qcg,↓qch,↓qci,qdd,qde,qc1,qc2,↓qel,↓qee,qav,List.drop_zero,Nat.sub_zero,qc6,qcz,qc0,qdr,qat,qas,qaf,List.map_cons,List.map_nil,List.zip_cons_cons,List.zip_nil_right,List.zip_nil_left,qau,evs,evp,mkB,repB,blen,qae,qad,qac,qab,qc9,qc8,qdq,qds,qdo,qdp,qc5,qc7,qc3,qc4,↓qdm,↓qdl,↓qdn,↓qah,↓qag,↓qai,↓retQ,res,resAll,resOne,kill,apartOk,exp,injV,injB,pur,purs,purR,pursR,List.set_cons_zero,List.set_cons_succ,List.length_cons,List.length_nil,List.cons_append,List.nil_append,List.append_nil,List.append_assoc,List.length_append,List.reduceReplicate,Nat.reduceAdd,Nat.reduceMul,Nat.reduceSub,Nat.reduceEqDiff,Nat.reduceLT,Nat.zero_add,Nat.add_zero,Nat.mul_one,Int.reduceToNat,Int.toNat_natCast,Int.cast_ofNat_Int,Int.reduceLE,Int.reduceLT,Int.reduceEq,reduceCtorEq,↓reduceIte,Bool.true_eq_false,Bool.false_eq_true,Bool.not_true,Bool.not_false,true_and,and_true,and_assoc,qaj,sub1,qdi,qdh,qdj,List.length_replicate,Nat.le_refl,false_implies,true_implies,ne_eq,not_true_eq_false,not_false_eq_true,decide_true,decide_false,decide_eq_true_eq,decide_eq_false_iff_not,Bool.not_eq_true',Bool.not_eq_false']
      repeat (refine And.intro (by omega) ?_)
      refine ⟨m + 1, hK2 _ (by omega) (by omega), Hd.of [0, 1, 2, 3, 4, 5, 6, 7, 8] (by decide) (by decide) (by simp) ?_⟩
      simp only [hst, gc, gcVs, gcV, posOf, gcH, gcB, Option.map_some, Option.map_none, List.replicate_zero, List.drop_zero, List.map_cons, List.map_nil, Nat.reduceLT, qc6, qcz, qc0, reduceCtorEq, ↓reduceIte, Nat.reduceEqDiff, Int.cast_ofNat_Int, List.append_nil, List.cons_append, List.nil_append, qaf, and_true, true_and, Nat.zero_add, Nat.add_zero, Nat.reduceAdd, qc3, qc4, List.reduceReplicate]
    · have hmn : m = nbl xs := by unfold nbl; omega
      have c2 : ¬ ((16 * m : Nat) : Int) < (xs.length : Int) := by omega
      have hyy : itr (hstS h xs) s.1 m = hshB h s.1 xs := by rw [hmn]; rfl
      rw [hyy]
      obtain ⟨y, hy⟩ : ∃ y, hshB h s.1 xs = y := ⟨_, rfl⟩
      rw [hy] at hx ⊢
      have hw : Go.IntKind.u64.wrap (Go.IntKind.u64.wrap (xs.length : Int) * 8) = bitl xs := rfl
      by_cases h0 : n = 0
      · have c3 : ((n : Int) = 0) = True := eq_true (by omega)
        rw [if_pos h0] at hx
        simp only [c2,c3,wi,hw,qdk,qdg,qaj,List.length_cons,List.length_nil,Nat.reduceAdd,Nat.le_refl,Nat.reduceLeDiff,Nat.reduceLT,true_and,and_true,↓qax,↓qay,↓qa0,↓qaz,↓qcy,↓qbj,↓qa1,↓qcr,↓qb3,↓qco,↓qcb,↓qck,↓qcl,↓qb4,↓qcj,↓qcp,↓qb5,↓qcm,↓qcn,↓qb6,↓qcc,↓qca,↓qb9,↓qb8,↓qb7,↓qa5,↓qbc,↓qa6,↓qbd,↓qa7,↓qbe,↓qa8,↓qbf,↓qa9,↓qbg,↓qba,↓qbh,↓qbb,↓qbi,↓qb2,↓qcq,↓qfq,↓qcu,↓qcv,↓qcw,↓qct,↓qcs,↓qbm,↓qbn,↓qb0,↓qbv,↓qbq,↓qbu,↓qbz,↓qbw,↓qby,↓qbx,↓qbr,↓qbp,↓qb1,↓qbs,↓qbt,↓qbo,↓qfd,↓qfc,↓qfh,↓qfj,↓qfi,↓qfb,↓qfa,↓qe7,↓qe8,↓qfg,↓qff,↓qfe,qdf,↓qe4,↓qe5,↓qe9,↓qdc,↓qda,↓qdb,↓qfl,↓qfm,↓qfn,↓qfk,qaa,↓qe6,↓qer,↓qes,↓qfp,↓qfo,↓qev,↓qdu,↓qd2,↓qej,↓qek,↓qe0,↓qe2,↓qdy,↓qdz,↓qd1,↓qd0,↓qd7,↓qe3,↓qd5,↓qew,↓qdx,↓qep,↓qex,↓qey,↓qez,↓qeb,↓qea,↓qec,↓qed,↓qef,↓qd9,↓qeg,↓qei,↓qeh,↓qdv,↓qdw,↓qd8,↓qaw,↓qd6,↓qeq,↓qem,↓qdt,↓qet,↓qen,↓qeo,↓qeu,↓qcd,↓qce,↓qcf,↓qcg,↓qch,↓qci,qdd,qde,qc1,qc2,↓qel,↓qee,qav,List.drop_zero,Nat.sub_zero,qc6,qcz,qc0,qdr,qat,qas,qaf,List.map_cons,List.map_nil,List.zip_cons_cons,List.zip_nil_right,List.zip_nil_left,qau,evs,evp,mkB,repB,blen,qae,qad,qac,qab,qc9,qc8,qdq,qds,qdo,qdp,qc5,qc7,qc3,qc4,↓qdm,↓qdl,↓qdn,↓qah,↓qag,↓qai,↓retQ,res,resAll,resOne,kill,apartOk,exp,injV,injB,pur,purs,purR,pursR,List.set_cons_zero,List.set_cons_succ,List.length_cons,List.length_nil,List.cons_append,List.nil_append,List.append_nil,List.append_assoc,List.length_append,List.reduceReplicate,Nat.reduceAdd,Nat.reduceMul,Nat.reduceSub,Nat.reduceEqDiff,Nat.reduceLT,Nat.zero_add,Nat.add_zero,Nat.mul_one,Int.reduceToNat,Int.toNat_natCast,Int.cast_ofNat_Int,Int.reduceLE,Int.reduceLT,Int.reduceEq,reduceCtorEq,↓reduceIte,Bool.true_eq_false,Bool.false_eq_true,Bool.not_true,Bool.not_false,true_and,and_true,and_assoc,qaj,sub1,qdi,qdh,qdj,List.length_replicate,Nat.le_refl,false_implies,true_implies,ne_eq,not_true_eq_false,not_false_eq_true,decide_true,decide_false,decide_eq_true_eq,decide_eq_false_iff_not,Bool.not_eq_true',Bool.not_eq_false']
        repeat (refine And.intro (by omega) ?_)
        refine ⟨n + 1, hK _ (by omega) (by omega), Hd.same ?_⟩
        simp only [hx, List.map_cons, List.map_nil, Nat.reduceLT, qc6, qcz, qc0, reduceCtorEq, ↓reduceIte, Nat.reduceEqDiff, Int.cast_ofNat_Int, List.append_nil, List.cons_append, List.nil_append, qaf, and_true, true_and, Nat.zero_add, Nat.add_zero, Nat.reduceAdd, qc3, qc4, List.reduceReplicate]
      · have c3 : ¬ (n : Int) = 0 := by omega
        rw [if_neg h0] at hx
        simp only [c2,c3,wi,hw,qdk,qdg,qaj,List.length_cons,List.length_nil,Nat.reduceAdd,Nat.le_refl,Nat.reduceLeDiff,Nat.reduceLT,true_and,and_true,↓qax,↓qay,↓qa0,↓qaz,↓qcy,↓qbj,↓qa1,↓qcr,↓qb3,↓qco,↓qcb,↓qck,↓qcl,↓qb4,↓qcj,↓qcp,↓qb5,↓qcm,↓qcn,↓qb6,↓qcc,↓qca,↓qb9,↓qb8,↓qb7,↓qa5,↓qbc,↓qa6,↓qbd,↓qa7,↓qbe,↓qa8,↓qbf,↓qa9,↓qbg,↓qba,↓qbh,↓qbb,↓qbi,↓qb2,↓qcq,↓qfq,↓qcu,↓qcv,↓qcw,↓qct,↓qcs,↓qbm,↓qbn,↓qb0,↓qbv,↓qbq,↓qbu,↓qbz,↓qbw,↓qby,↓qbx,↓qbr,↓qbp,↓qb1,↓qbs,↓qbt,↓qbo,↓qfd,↓qfc,↓qfh,↓qfj,↓qfi,↓qfb,↓qfa,↓qe7,↓qe8,↓qfg,↓qff,↓qfe,qdf,↓qe4,↓qe5,↓qe9,↓qdc,↓qda,↓qdb,↓qfl,↓qfm,↓qfn,↓qfk,qaa,↓qe6,↓qer,↓qes,↓qfp,↓qfo,↓qev,↓qdu,↓qd2,↓qej,↓qek,↓qe0,↓qe2,↓qdy,↓qdz,↓qd1,↓qd0,↓qd7,↓qe3,↓qd5,↓qew,↓qdx,↓qep,↓qex,↓qey,↓qez,↓qeb,↓qea,↓qec,↓qed,↓qef,↓qd9,↓qeg,↓qei,↓qeh,↓qdv,↓qdw,↓qd8,↓qaw,↓qd6,↓qeq,↓qem,↓qdt,↓qet,↓qen,↓qeo,↓qeu,↓qcd,↓qce,↓qcf,↓qcg,↓qch,↓qci,qdd,qde,qc1,qc2,↓qel,↓qee,qav,List.drop_zero,Nat.sub_zero,qc6,qcz,qc0,qdr,qat,qas,qaf,List.map_cons,List.map_nil,List.zip_cons_cons,List.zip_nil_right,List.zip_nil_left,qau,evs,evp,mkB,repB,blen,qae,qad,qac,qab,qc9,qc8,qdq,qds,qdo,qdp,qc5,qc7,qc3,qc4,↓qdm,↓qdl,↓qdn,↓qah,↓qag,↓qai,↓retQ,res,resAll,resOne,kill,apartOk,exp,injV,injB,pur,purs,purR,pursR,List.set_cons_zero,List.set_cons_succ,List.length_cons,List.length_nil,List.cons_append,List.nil_append,List.append_nil,List.append_assoc,List.length_append,List.reduceReplicate,Nat.reduceAdd,Nat.reduceMul,Nat.reduceSub,Nat.reduceEqDiff,Nat.reduceLT,Nat.zero_add,Nat.add_zero,Nat.mul_one,Int.reduceToNat,Int.toNat_natCast,Int.cast_ofNat_Int,Int.reduceLE,Int.reduceLT,Int.reduceEq,reduceCtorEq,↓reduceIte,Bool.true_eq_false,Bool.false_eq_true,Bool.not_true,Bool.not_false,true_and,and_true,and_assoc,qaj,sub1,qdi,qdh,qdj,List.length_replicate,Nat.le_refl,false_implies,true_implies,ne_eq,not_true_eq_false,not_false_eq_true,decide_true,decide_false,decide_eq_true_eq,decide_eq_false_iff_not,Bool.not_eq_true',Bool.not_eq_false']
        repeat (refine And.intro (by omega) ?_)
        refine ⟨n + 1, hK _ (by omega) (by omega), Hd.same ?_⟩
        simp only [hx, List.map_cons, List.map_nil, Nat.reduceLT, qc6, qcz, qc0, reduceCtorEq, ↓reduceIte, Nat.reduceEqDiff, Int.cast_ofNat_Int, List.append_nil, List.cons_append, List.nil_append, qaf, and_true, true_and, Nat.zero_add, Nat.add_zero, Nat.reduceAdd, qc3, qc4, List.reduceReplicate]
  obtain rfl : n = 2 := by omega
  have c1 : ¬((2 : Nat) : Int) < 2 := by omega
  obtain ⟨s, hs⟩ : ∃ s, hsI h a b 2 = s := ⟨_, rfl⟩
  rw [hs] at hR ⊢
  have ft : F39 [.v (.ints .u64 [bXor .u64 s.1.1 s.2.1, bXor .u64 s.1.2 s.2.2]), .v (.ints .u64 [h.1, h.2])] = .one (.v (.ints .u64 [(fin2 h s).1, (fin2 h s).2])) := rfl
  obtain ⟨t, ht⟩ : ∃ t, fin2 h s = t := ⟨_, rfl⟩
  rw [ht] at ft hR
  have qt : preHalf2 [.v (.ints .u64 [bXor .u64 s.1.1 s.2.1, bXor .u64 s.1.2 s.2.2]), .v (.ints .u64 [h.1, h.2])] := ⟨_, _, _, _, rfl⟩
  have qb : preHalf [.v (.ints .u64 [t.1, t.2])] := ⟨_, _, rfl⟩
  have fb : F40 [.v (.ints .u64 [t.1, t.2])] = .one (.v (.ints .u8 (blkF t.1 t.2))) := rfl
  have hB := blkF_ok t.1 t.2
  rw [hR] at fb hB
  have hRl := hB.1
  have sR : sub R 0 16 = R := qdk hRl
  have pR : spl [0, 0, 0, 0, 0, 0, 0, 0, 0, 0, 0, 0, 0, 0, 0, 0] 0 R = R := qdg (by simp [hRl])
  simp only [s38, s39, s40]
  simp only [c1,qt,ft,qb,fb,hRl,sR,pR,s2,p2,getI2_0,getI2_1,qdk,qdg,qaj,List.length_cons,List.length_nil,Nat.reduceAdd,Nat.le_refl,Nat.reduceLeDiff,Nat.reduceLT,true_and,and_true,↓qax,↓qay,↓qa0,↓qaz,↓qcy,↓qbj,↓qa1,↓qcr,↓qb3,↓qco,↓qcb,↓qck,↓qcl,↓qb4,↓qcj,↓qcp,↓qb5,↓qcm,↓qcn,↓qb6,↓qcc,↓qca,↓qb9,↓qb8,↓qb7,↓qa5,↓qbc,↓qa6,↓qbd,↓qa7,↓qbe,↓qa8,↓qbf,↓qa9,↓qbg,↓qba,↓qbh,↓qbb,↓qbi,↓qb2,↓qcq,↓qfq,↓qcu,↓qcv,↓qcw,↓qct,↓qcs,↓qbm,↓qbn,↓qb0,↓qbv,↓qbq,↓qbu,↓qbz,↓qbw,↓qby,↓qbx,↓qbr,↓qbp,↓qb1,↓qbs,↓qbt,↓qbo,↓qfd,↓qfc,↓qfh,↓qfj,↓qfi,↓qfb,↓qfa,↓qe7,↓qe8,↓qfg,↓qff,↓qfe,qdf,↓qe4,↓qe5,↓qe9,↓qdc,↓qda,↓qdb,↓qfl,↓qfm,↓qfn,↓qfk,qaa,↓qe6,↓qer,↓qes,↓qfp,↓qfo,↓qev,↓qdu,↓qd2,↓qej,↓qek,↓qe0,↓qe2,↓qdy,↓qdz,↓qd1,↓qd0,↓qd7,↓qe3,↓qd5,↓qew,↓qdx,↓qep,↓qex,↓qey,↓qez,↓qeb,↓qea,↓qec,↓qed,↓qef,↓qd9,↓qeg,↓qei,↓qeh,↓qdv,↓qdw,↓qd8,↓qaw,↓qd6,↓qeq,↓qem,↓qdt,↓qet,↓qen,↓qeo,↓qeu,↓qcd,↓qce,↓qcf,↓qcg,↓qch,↓qci,qdd,qde,qc1,qc2,↓qel,↓qee,qav,List.drop_zero,Nat.sub_zero,qc6,qcz,qc0,qdr,qat,qas,qaf,List.map_cons,List.map_nil,List.zip_cons_cons,List.zip_nil_right,List.zip_nil_left,qau,evs,evp,mkB,repB,blen,qae,qad,qac,qab,qc9,qc8,qdq,qds,qdo,qdp,qc5,qc7,qc3,qc4,↓qdm,↓qdl,↓qdn,↓qah,↓qag,↓qai,↓retQ,res,resAll,resOne,kill,apartOk,exp,injV,injB,pur,purs,purR,pursR,List.set_cons_zero,List.set_cons_succ,List.length_cons,List.length_nil,List.cons_append,List.nil_append,List.append_nil,List.append_assoc,List.length_append,List.reduceReplicate,Nat.reduceAdd,Nat.reduceMul,Nat.reduceSub,Nat.reduceEqDiff,Nat.reduceLT,Nat.zero_add,Nat.add_zero,Nat.mul_one,Int.reduceToNat,Int.toNat_natCast,Int.cast_ofNat_Int,Int.reduceLE,Int.reduceLT,Int.reduceEq,reduceCtorEq,↓reduceIte,Bool.true_eq_false,Bool.false_eq_true,Bool.not_true,Bool.not_false,true_and,and_true,and_assoc,qaj,sub1,qdi,qdh,qdj,List.length_replicate,Nat.le_refl,false_implies,true_implies,ne_eq,not_true_eq_false,not_false_eq_true,decide_true,decide_false,decide_eq_true_eq,decide_eq_false_iff_not,Bool.not_eq_true',Bool.not_eq_false']
  repeat (refine And.intro (by omega) ?_)
  simp only [out, outs, out1, pur, and_self]
end Am
