/-
Working texts: contracts of functions, and the numbers behind them.
-/
import Derived.Test.YtbbhjdopfpkhfaaInD
import Derived.Test.YtbbhjdopfpkhfaaIrB
import Derived.Test.YtbbhjdopfpkhfaaAmRow
set_option linter.unusedSimpArgs false
set_option linter.unusedVariables false
set_option linter.unusedSectionVars false
set_option linter.unusedSimpArgs false
set_option linter.unusedVariables false
set_option maxRecDepth 20000
namespace Am
open Go.Proofs
def preT (ds : List D) : Prop := ds = []
def s17 : Summ := sData [] preT FT
theorem okI {w r l t g c : Int} {o : List (Option Int)} {f z : Bool} (hw : 0 ≤ w ∧ w < 1099511627776) (hr : 0 ≤ r ∧ r < 1099511627776) (hl : 0 ≤ l ∧ l < 1099511627776) (ht : 0 ≤ t ∧ t < 1099511627776) (hg : 0 ≤ g ∧ g < 18446744073709551616) (ho : o.length < 1099511627776) : Inl.Ok ⟨w, r, l, t, o, f, g, z, c⟩ := ⟨hw, hr, hl, ht, hg, ho⟩
set_option maxHeartbeats 2000000 in
theorem ok17 {g : List Blk} [Ge gl g] : SumOK Try.prog g 17 s17 ∧ SumAbs s17 := by
  refine fsumA (l := [(18, s18), (19, s19), (24, s24), (20, s20)]) mixed gl_plain rfl Try.func17 comp17 compR17 nt17 (by simp only [List.mem_cons, List.not_mem_nil, or_false, forall_eq_or_imp, forall_eq]; exact ⟨ok18, ok19, ok24, ok20⟩) fun ds hd hA => ?_
  rw [hd]
  simp only [s18, s19, s24, s20]
  have q0 : pre18 [.v (.int .u64 10)] := ⟨10, rfl, by decide⟩
  have f0 : F18 [.v (.int .u64 10)] = ([], .many [.p [.v (.int .u64 10), .v (.int .u64 0), .v (.int .u64 10), .v (.int .u64 0), .s 1 0 .u8 [], .c 1 0 [], .v (.bool false), .v (.int .u64 0), .v (.bool false), .v (.int .u64 0)], .v (.int .i64 0)]) := rfl
  have q1 : pre19 [.p [.v (.int .u64 10), .v (.int .u64 0), .v (.int .u64 10), .v (.int .u64 0), .s 1 0 .u8 [], .c 1 0 [], .v (.bool false), .v (.int .u64 0), .v (.bool false), .v (.int .u64 0)], .v (.int .u64 2), .v (.rsl 1 2 .u8 [99, 100]), .v (.bool false)] :=
    ⟨⟨10, 0, 10, 0, [], false, 0, false, 0⟩, 2, _, [99, 100], false, rfl, .inr rfl, okI (by decide) (by decide) (by decide) (by decide) (by decide) (by decide), by decide, by decide, by decide⟩
  have f1 : F19 [.p [.v (.int .u64 10), .v (.int .u64 0), .v (.int .u64 10), .v (.int .u64 0), .s 1 0 .u8 [], .c 1 0 [], .v (.bool false), .v (.int .u64 0), .v (.bool false), .v (.int .u64 0)], .v (.int .u64 2), .v (.rsl 1 2 .u8 [99, 100]), .v (.bool false)] =
    ([[.v (.int .u64 10), .v (.int .u64 0), .v (.int .u64 10), .v (.int .u64 4), .s 1 4 .u8 [0, 0, 99, 100], .c 1 4 [.bool false, .bool false, .bool true, .bool true], .v (.bool false), .v (.int .u64 0), .v (.bool false), .v (.int .u64 0)]], .many [.v (.int .u64 4), .v (.int .i64 0)]) := rfl
  have q2 : pre19 [.p [.v (.int .u64 10), .v (.int .u64 0), .v (.int .u64 10), .v (.int .u64 4), .s 1 4 .u8 [0, 0, 99, 100], .c 1 4 [.bool false, .bool false, .bool true, .bool true], .v (.bool false), .v (.int .u64 0), .v (.bool false), .v (.int .u64 0)], .v (.int .u64 0), .v (.rsl 1 2 .u8 [97, 98]), .v (.bool false)] :=
    ⟨⟨10, 0, 10, 4, [none, none, some 99, some 100], false, 0, false, 0⟩, 0, _, [97, 98], false, rfl, .inr rfl, okI (by decide) (by decide) (by decide) (by decide) (by decide) (by decide), by decide, by decide, by decide⟩
  have f2 : F19 [.p [.v (.int .u64 10), .v (.int .u64 0), .v (.int .u64 10), .v (.int .u64 4), .s 1 4 .u8 [0, 0, 99, 100], .c 1 4 [.bool false, .bool false, .bool true, .bool true], .v (.bool false), .v (.int .u64 0), .v (.bool false), .v (.int .u64 0)], .v (.int .u64 0), .v (.rsl 1 2 .u8 [97, 98]), .v (.bool false)] =
    ([[.v (.int .u64 10), .v (.int .u64 0), .v (.int .u64 10), .v (.int .u64 4), .s 1 4 .u8 [97, 98, 99, 100], .c 1 4 [.bool true, .bool true, .bool true, .bool true], .v (.bool false), .v (.int .u64 0), .v (.bool false), .v (.int .u64 0)]], .many [.v (.int .u64 0), .v (.int .i64 0)]) := rfl
  have q3 : preI [.v (.rpc [.int .u64 10, .int .u64 0, .int .u64 10, .int .u64 4, .rsl 1 4 .u8 [97, 98, 99, 100], .rcs 1 4 [.bool true, .bool true, .bool true, .bool true], .bool false, .int .u64 0, .bool false, .int .u64 0] 0)] := ⟨⟨10, 0, 10, 4, [some 97, some 98, some 99, some 100], false, 0, false, 0⟩, rfl, by decide⟩
  have f3 : F24 [.v (.rpc [.int .u64 10, .int .u64 0, .int .u64 10, .int .u64 4, .rsl 1 4 .u8 [97, 98, 99, 100], .rcs 1 4 [.bool true, .bool true, .bool true, .bool true], .bool false, .int .u64 0, .bool false, .int .u64 0] 0)] = .one (.v (.int .i64 4)) := rfl
  have q4 : pre20 [.p [.v (.int .u64 10), .v (.int .u64 0), .v (.int .u64 10), .v (.int .u64 4), .s 1 4 .u8 [97, 98, 99, 100], .c 1 4 [.bool true, .bool true, .bool true, .bool true], .v (.bool false), .v (.int .u64 0), .v (.bool false), .v (.int .u64 0)], .v (.int .i64 3)] :=
    ⟨⟨10, 0, 10, 4, [some 97, some 98, some 99, some 100], false, 0, false, 0⟩, 3, rfl, okI (by decide) (by decide) (by decide) (by decide) (by decide) (by decide)⟩
  have f4 : F20 [.p [.v (.int .u64 10), .v (.int .u64 0), .v (.int .u64 10), .v (.int .u64 4), .s 1 4 .u8 [97, 98, 99, 100], .c 1 4 [.bool true, .bool true, .bool true, .bool true], .v (.bool false), .v (.int .u64 0), .v (.bool false), .v (.int .u64 0)], .v (.int .i64 3)] =
    ([[.v (.int .u64 10), .v (.int .u64 3), .v (.int .u64 10), .v (.int .u64 4), .s 1 1 .u8 [100], .c 1 1 [.bool true], .v (.bool false), .v (.int .u64 0), .v (.bool false), .v (.int .u64 0)]], .many [.s 1 3 .u8 [97, 98, 99], .v (.bool false), .v (.int .i64 0)]) := rfl
  have e1 : sub ([99, 100] : List Int) 0 2 = [99, 100] := rfl
  have e2 : sub ([97, 98] : List Int) 0 2 = [97, 98] := rfl
  have e3 : sub ([97, 98, 99, 100] : List Int) 0 4 = [97, 98, 99, 100] := rfl
  have e4 : sub [V.bool true, V.bool true, V.bool true, V.bool true] 0 4 = [V.bool true, V.bool true, V.bool true, V.bool true] := rfl
  have e5 : sub ([97, 98, 99] : List Int) 0 3 = [97, 98, 99] := rfl
  have e6 : List.map byte [97, 98, 99] = [97, 98, 99] := rfl
  simp only [ir17,rs17,gl,FT,q0,f0,q1,f1,q2,f2,q3,f3,q4,f4,e1,e2,e3,e4,e5,e6,↓qar,↓qao,↓qap,↓qaq,↓qan,↓qak,↓qal,↓qam,idsEs,idsE,idss,killB,effE,stA,deads,nwA,cntA,cnts,cnt,valO,blkO,inj,injs,blk,blks,outA,outR,outE,outEs,sids,List.nodup_cons,List.nodup_nil,List.not_mem_nil,List.mem_cons,or_false,false_or,not_or,qda,qc6,qaj,List.length_cons,List.length_nil,Nat.reduceAdd,Nat.le_refl,Nat.reduceLeDiff,Nat.reduceLT,true_and,and_true,↓qax,↓qay,↓qa0,↓qaz,↓qcs,↓qbj,↓qa1,↓qcl,↓qb3,↓qci,↓qcb,↓qce,↓qcf,↓qb4,↓qcd,↓qcj,↓qb5,↓qcg,↓qch,↓qb6,↓qcc,↓qca,↓qb9,↓qb8,↓qb7,↓qa5,↓qbc,↓qa6,↓qbd,↓qa7,↓qbe,↓qa8,↓qbf,↓qa9,↓qbg,↓qba,↓qbh,↓qbb,↓qbi,↓qb2,↓qck,↓qfa,↓qco,↓qcp,↓qcq,↓qcn,↓qcm,↓qbm,↓qbn,↓qb0,↓qbv,↓qbq,↓qbu,↓qbz,↓qbw,↓qby,↓qbx,↓qbr,↓qbp,↓qb1,↓qbs,↓qbt,↓qbo,↓qex,↓qew,↓qe1,↓qe3,↓qe2,↓qev,↓qeu,↓qer,↓qes,↓qe0,↓qez,↓qey,qc5,↓qeo,↓qep,↓qet,↓qc4,↓qc2,↓qc3,↓qe5,↓qe6,↓qe7,↓qe4,qaa,↓qeq,↓qed,↓qee,↓qe9,↓qe8,↓qeg,↓qdj,↓qdr,↓qd8,↓qd9,↓qel,↓qem,↓qdn,↓qdo,↓qdq,↓qdp,↓qdw,↓qen,↓qdu,↓qeh,↓qdm,↓qeb,↓qei,↓qej,↓qek,↓qd0,↓qdz,↓qd1,↓qd2,↓qd4,↓qdy,↓qd5,↓qd7,↓qd6,↓qdk,↓qdl,↓qdx,↓qaw,↓qdv,↓qec,↓qef,↓qea,↓qd3,qav,List.drop_zero,Nat.sub_zero,qcy,qct,qcu,qdh,qat,qas,qaf,List.map_cons,List.map_nil,List.zip_cons_cons,List.zip_nil_right,List.zip_nil_left,qau,evs,evp,mkB,repB,blen,qae,qad,qac,qab,qc1,qc0,qdg,qdi,qde,qdf,qcx,qcz,qcv,qcw,↓qdc,↓qdb,↓qdd,↓qah,↓qag,↓qai,↓retQ,res,resAll,resOne,kill,apartOk,exp,injV,injB,pur,purs,purR,pursR,List.set_cons_zero,List.set_cons_succ,List.length_cons,List.length_nil,List.cons_append,List.nil_append,List.append_nil,List.append_assoc,List.length_append,List.reduceReplicate,Nat.reduceAdd,Nat.reduceMul,Nat.reduceSub,Nat.reduceEqDiff,Nat.reduceLT,Nat.zero_add,Nat.add_zero,Nat.mul_one,Int.reduceToNat,Int.toNat_natCast,Int.cast_ofNat_Int,Int.reduceLE,Int.reduceLT,Int.reduceEq,reduceCtorEq,↓reduceIte,Bool.true_eq_false,Bool.false_eq_true,Bool.not_true,Bool.not_false,true_and,and_true,and_assoc,qaj,sub1,qc8,qc7,qc9,List.length_replicate,Nat.le_refl,false_implies,true_implies,ne_eq,not_true_eq_false,not_false_eq_true,decide_true,decide_false,decide_eq_true_eq,decide_eq_false_iff_not,Bool.not_eq_true',Bool.not_eq_false']
  exact ⟨rfl, rfl, out_bool rfl⟩
end Am
set_option linter.unusedSimpArgs false
set_option linter.unusedVariables false
set_option maxRecDepth 20000
namespace Am
open Go.Proofs
/-! ### Calls, by the object -/
section
variable (s : Inl)
theorem ofE_lit : ofE (.p [.v (.int .u64 s.w), .v (.int .u64 s.r), .v (.int .u64 s.l), .v (.int .u64 s.t), .s 1 s.o.length .u8 (bys s.o), .c 1 s.o.length (hss s.o), .v (.bool s.f), .v (.int .u64 s.g), .v (.bool s.z), .v (.int .u64 s.c)]) = s := ofE_fs s
theorem c_put (off : Int) (bv : V) (fin : Bool) : F19 [.p [.v (.int .u64 s.w), .v (.int .u64 s.r), .v (.int .u64 s.l), .v (.int .u64 s.t), .s 1 s.o.length .u8 (bys s.o), .c 1 s.o.length (hss s.o), .v (.bool s.f), .v (.int .u64 s.g), .v (.bool s.z), .v (.int .u64 s.c)], .v (.int .u64 off), .v bv, .v (.bool fin)] =
    ([(putI s off (bOfV bv) fin).1.fs], .many [.v (.int .u64 (putI s off (bOfV bv) fin).2.1), .v (.int .i64 (putI s off (bOfV bv) fin).2.2)]) := by
  simp only [F19, ofE_lit]
theorem p_put {off : Int} {bv : V} {b : List Int} {fin : Bool} (hb : PartB bv b) (hs : s.Ok) (h0 : 0 ≤ off) (h1 : off < 18446744073709551616) (hl : b.length ≤ 1099511627776) : pre19 [.p [.v (.int .u64 s.w), .v (.int .u64 s.r), .v (.int .u64 s.l), .v (.int .u64 s.t), .s 1 s.o.length .u8 (bys s.o), .c 1 s.o.length (hss s.o), .v (.bool s.f), .v (.int .u64 s.g), .v (.bool s.z), .v (.int .u64 s.c)], .v (.int .u64 off), .v bv, .v (.bool fin)] :=
  ⟨s, off, bv, b, fin, rfl, hb, hs, h0, h1, hl⟩
theorem c_read (n : Int) : F20 [.p [.v (.int .u64 s.w), .v (.int .u64 s.r), .v (.int .u64 s.l), .v (.int .u64 s.t), .s 1 s.o.length .u8 (bys s.o), .c 1 s.o.length (hss s.o), .v (.bool s.f), .v (.int .u64 s.g), .v (.bool s.z), .v (.int .u64 s.c)], .v (.int .i64 n)] =
    ([(s.read n).fs], .many [.s 1 (outI s n).length .u8 (outI s n), .v (.bool (!s.z && (s.f && decide (s.r + s.many n = s.g)))), .v (.int .i64 (if s.z then 35 else 0))]) := by
  simp only [F20, ofE_lit]
theorem p_read {n : Int} (hs : s.Ok) : pre20 [.p [.v (.int .u64 s.w), .v (.int .u64 s.r), .v (.int .u64 s.l), .v (.int .u64 s.t), .s 1 s.o.length .u8 (bys s.o), .c 1 s.o.length (hss s.o), .v (.bool s.f), .v (.int .u64 s.g), .v (.bool s.z), .v (.int .u64 s.c)], .v (.int .i64 n)] := ⟨s, n, rfl, hs⟩
theorem c_reset (long code : Int) : F25 [.p [.v (.int .u64 s.w), .v (.int .u64 s.r), .v (.int .u64 s.l), .v (.int .u64 s.t), .s 1 s.o.length .u8 (bys s.o), .c 1 s.o.length (hss s.o), .v (.bool s.f), .v (.int .u64 s.g), .v (.bool s.z), .v (.int .u64 s.c)], .v (.int .u64 long), .v (.int .u64 code)] =
    ([(resetI s long code).1.fs], .many [.v (.int .u64 (resetI s long code).2.1), .v (.int .i64 (resetI s long code).2.2)]) := by
  simp only [F25, ofE_lit]
theorem p_reset {long code : Int} (hs : s.Ok) (h0 : 0 ≤ long) (h1 : long < 18446744073709551616) : pre25 [.p [.v (.int .u64 s.w), .v (.int .u64 s.r), .v (.int .u64 s.l), .v (.int .u64 s.t), .s 1 s.o.length .u8 (bys s.o), .c 1 s.o.length (hss s.o), .v (.bool s.f), .v (.int .u64 s.g), .v (.bool s.z), .v (.int .u64 s.c)], .v (.int .u64 long), .v (.int .u64 code)] := ⟨s, long, code, rfl, hs, h0, h1⟩
theorem c_widen : F22 [.p [.v (.int .u64 s.w), .v (.int .u64 s.r), .v (.int .u64 s.l), .v (.int .u64 s.t), .s 1 s.o.length .u8 (bys s.o), .c 1 s.o.length (hss s.o), .v (.bool s.f), .v (.int .u64 s.g), .v (.bool s.z), .v (.int .u64 s.c)]] =
    ([s.widen.fs], .many [.v (.int .u64 (if s.widens then s.r + s.w else 0)), .v (.bool s.widens)]) := by
  simp only [F22, ofE_lit]
theorem p_widen (hs : s.Ok) : pre22 [.p [.v (.int .u64 s.w), .v (.int .u64 s.r), .v (.int .u64 s.l), .v (.int .u64 s.t), .s 1 s.o.length .u8 (bys s.o), .c 1 s.o.length (hss s.o), .v (.bool s.f), .v (.int .u64 s.g), .v (.bool s.z), .v (.int .u64 s.c)]] := ⟨s, rfl, hs⟩
theorem c_fI : fI [.v (.rpc [.int .u64 s.w, .int .u64 s.r, .int .u64 s.l, .int .u64 s.t, .rsl 1 s.o.length .u8 (bys s.o), .rcs 1 s.o.length (hss s.o), .bool s.f, .int .u64 s.g, .bool s.z, .int .u64 s.c] 0)] = s := fI_eq s
theorem p_I (hs : s.Ok) : preI [.v (.rpc [.int .u64 s.w, .int .u64 s.r, .int .u64 s.l, .int .u64 s.t, .rsl 1 s.o.length .u8 (bys s.o), .rcs 1 s.o.length (hss s.o), .bool s.f, .int .u64 s.g, .bool s.z, .int .u64 s.c] 0)] := ⟨s, rfl, hs.o⟩
end
/-! ### What putting leaves -/
theorem put1_get {r at_ c : Int} {o : List (Option Int)} (k : Nat) : (put1 r at_ c o).getD k none = if (o.getD k none).isSome = true then o.getD k none else if r + k = at_ then some c else none := by
  have hrep : ∀ m : Nat, (o ++ List.replicate m none).getD k none = o.getD k none := by
    intro m
    simp only [List.getD_eq_getElem?_getD, List.getElem?_append, List.getElem?_replicate]
    split
    · rfl
    · rename_i h
      rw [List.getElem?_eq_none (by omega)]
      split <;> rfl
  unfold put1
  split
  · rename_i h
    split
    · rfl
    · rename_i h1
      rw [if_neg (by omega)]
      cases hx : o.getD k none with
      | none => rfl
      | some x => rw [hx] at h1; exact absurd rfl h1
  · rename_i h
    obtain ⟨j, hj⟩ : ∃ j : Nat, at_ - r = j := ⟨(at_ - r).toNat, by omega⟩
    rw [show (at_ - r).toNat = j by omega]
    have hjl : j < (o ++ List.replicate (j + 1 - o.length) none).length := by simp; omega
    by_cases hk : k = j
    · subst hk
      rw [hrep]
      split
      · rename_i h2; rw [hrep]
      · rename_i h2
        rw [List.getD_eq_getElem?_getD, List.getElem?_set_self hjl, if_pos (by omega)]; rfl
    · have hne : r + (k : Int) ≠ at_ := by omega
      rw [if_neg hne]
      split
      · rw [hrep]
        split
        · rfl
        · rename_i h2
          cases hx : o.getD k none with
          | none => rfl
          | some x => rw [hx] at h2; exact absurd rfl h2
      · rw [List.getD_eq_getElem?_getD, List.getElem?_set_ne (by omega), ← List.getD_eq_getElem?_getD, hrep]
        split
        · rfl
        · rename_i h2
          cases hx : o.getD k none with
          | none => rfl
          | some x => rw [hx] at h2; exact absurd rfl h2
theorem putN_get {r off : Int} {b : List Int} {o : List (Option Int)} (k : Nat) : ∀ n : Nat, (putN r off b o n).getD k none = if (o.getD k none).isSome = true then o.getD k none else if off ≤ r + k ∧ r + k < off + n then some (getI b (r + k - off).toNat) else none
  | 0 => by
    rw [putN]
    split
    · rfl
    · rename_i h
      rw [if_neg (by omega)]
      cases hx : o.getD k none with
      | none => rfl
      | some x => rw [hx] at h; exact absurd rfl h
  | n + 1 => by
    rw [putN, put1_get, putN_get k n]
    by_cases h : (o.getD k none).isSome = true
    · simp only [if_pos h]
    · simp only [if_neg h]
      by_cases h1 : off ≤ r + (k : Int) ∧ r + (k : Int) < off + n
      · rw [if_pos h1, if_pos (by rfl), if_pos (by push_cast; omega)]
      · rw [if_neg h1, if_neg (by simp)]
        by_cases h2 : r + (k : Int) = off + n
        · rw [if_pos h2, if_pos (by push_cast; omega), show (r + (k : Int) - off).toNat = n by omega]
        · rw [if_neg h2, if_neg (by push_cast; omega)]
def pre5 (ds : List D) : Prop := ∃ (text : List Int) (off more code : Int), ds = [.s .u8 text, .v (.int .u8 off), .v (.int .u8 more), .v (.int .u64 code)] ∧ (0 ≤ off ∧ off < 256) ∧ (0 ≤ more ∧ more < 256) ∧ 0 ≤ code ∧ code < 18446744073709551616
theorem put_ok {s : Inl} {off : Int} {b : List Int} {fin : Bool} (hc : off + b.length ≤ 4611686018427387903) (he : s.end_ (off + b.length) fin = 0) (hz : s.z = false) : putI s off b fin = ({ s.fin fin (off + b.length) with t := max s.t (off + b.length), o := putN s.r off b s.o b.length }, max s.t (off + b.length) - s.t, 0) := by
  rw [putI, if_neg (by omega), if_neg (by rw [he]; decide), if_neg (by rw [hz]; decide)]
theorem put_bad {s : Inl} {off : Int} {b : List Int} {fin : Bool} (hc : off + b.length ≤ 4611686018427387903) (he : s.end_ (off + b.length) fin ≠ 0) : putI s off b fin = (s, 0, s.end_ (off + b.length) fin) := by
  rw [putI, if_neg (by omega), if_pos he]
theorem end_30 {s : Inl} {to : Int} {fin : Bool} (h : s.l < to) : s.end_ to fin = 30 := by rw [Inl.end_, endE, if_pos h]
theorem end_31 {s : Inl} {to : Int} {fin : Bool} (h : ¬s.l < to) (h2 : (s.f = true ∧ (s.g < to ∨ fin = true ∧ ¬to = s.g)) ∨ (fin = true ∧ to < s.t)) : s.end_ to fin = 31 := by
  rw [Inl.end_, endE, if_neg h, if_pos (by simpa using h2)]
theorem end_0 {s : Inl} {to : Int} {fin : Bool} (h : ¬s.l < to) (h2 : ¬((s.f = true ∧ (s.g < to ∨ fin = true ∧ ¬to = s.g)) ∨ (fin = true ∧ to < s.t))) : s.end_ to fin = 0 := by
  rw [Inl.end_, endE, if_neg h, if_neg (by simpa using h2)]
theorem putN_len0 {r off : Int} {b : List Int} {o : List (Option Int)} {n : Nat} (h : r = 0) (h1 : off + n < 1099511627776) (h2 : o.length < 1099511627776) : (putN r off b o n).length < 1099511627776 := by
  have := (putN_len r off b o n).1
  omega
set_option maxHeartbeats 4000000 in
theorem lawInletEnds : ∀ ds, pre5 ds → Does Try.prog gl 5 (injV ds 4) (gl ++ injB true ds) (out (4 + (injB true ds).length) (FT ds)) := by
  refine fdoesA (l := [(17, s17), (18, s18), (19, s19), (25, s25), (26, s26)]) mixed gl_plain rfl Try.func5 comp5 compR5 nt5 (by simp only [List.mem_cons, List.not_mem_nil, or_false, forall_eq_or_imp, forall_eq]; exact ⟨ok17, ok18, ok19, ok25, ok26⟩) fun ds ⟨text, off, more, code, hd, ho, hm, hc0, hc1⟩ hA => ?_
  subst hd
  simp only [s17, s18, s19, s25, s26]
  have qa : preT [] := rfl
  have st : sub text 0 text.length = text := qda rfl
  by_cases hl : 100 < text.length
  · have c : (100 : Int) < text.length := by omega
    simp only [ir5,rs5,gl,FT,qa,c,qda,qc6,qaj,List.length_cons,List.length_nil,Nat.reduceAdd,Nat.le_refl,Nat.reduceLeDiff,Nat.reduceLT,true_and,and_true,↓qax,↓qay,↓qa0,↓qaz,↓qcs,↓qbj,↓qa1,↓qcl,↓qb3,↓qci,↓qcb,↓qce,↓qcf,↓qb4,↓qcd,↓qcj,↓qb5,↓qcg,↓qch,↓qb6,↓qcc,↓qca,↓qb9,↓qb8,↓qb7,↓qa5,↓qbc,↓qa6,↓qbd,↓qa7,↓qbe,↓qa8,↓qbf,↓qa9,↓qbg,↓qba,↓qbh,↓qbb,↓qbi,↓qb2,↓qck,↓qfa,↓qco,↓qcp,↓qcq,↓qcn,↓qcm,↓qbm,↓qbn,↓qb0,↓qbv,↓qbq,↓qbu,↓qbz,↓qbw,↓qby,↓qbx,↓qbr,↓qbp,↓qb1,↓qbs,↓qbt,↓qbo,↓qex,↓qew,↓qe1,↓qe3,↓qe2,↓qev,↓qeu,↓qer,↓qes,↓qe0,↓qez,↓qey,qc5,↓qeo,↓qep,↓qet,↓qc4,↓qc2,↓qc3,↓qe5,↓qe6,↓qe7,↓qe4,qaa,↓qeq,↓qed,↓qee,↓qe9,↓qe8,↓qeg,↓qdj,↓qdr,↓qd8,↓qd9,↓qel,↓qem,↓qdn,↓qdo,↓qdq,↓qdp,↓qdw,↓qen,↓qdu,↓qeh,↓qdm,↓qeb,↓qei,↓qej,↓qek,↓qd0,↓qdz,↓qd1,↓qd2,↓qd4,↓qdy,↓qd5,↓qd7,↓qd6,↓qdk,↓qdl,↓qdx,↓qaw,↓qdv,↓qec,↓qef,↓qea,↓qd3,qav,List.drop_zero,Nat.sub_zero,qcy,qct,qcu,qdh,qat,qas,qaf,List.map_cons,List.map_nil,List.zip_cons_cons,List.zip_nil_right,List.zip_nil_left,qau,evs,evp,mkB,repB,blen,qae,qad,qac,qab,qc1,qc0,qdg,qdi,qde,qdf,qcx,qcz,qcv,qcw,↓qdc,↓qdb,↓qdd,↓qah,↓qag,↓qai,↓retQ,res,resAll,resOne,kill,apartOk,exp,injV,injB,pur,purs,purR,pursR,List.set_cons_zero,List.set_cons_succ,List.length_cons,List.length_nil,List.cons_append,List.nil_append,List.append_nil,List.append_assoc,List.length_append,List.reduceReplicate,Nat.reduceAdd,Nat.reduceMul,Nat.reduceSub,Nat.reduceEqDiff,Nat.reduceLT,Nat.zero_add,Nat.add_zero,Nat.mul_one,Int.reduceToNat,Int.toNat_natCast,Int.cast_ofNat_Int,Int.reduceLE,Int.reduceLT,Int.reduceEq,reduceCtorEq,↓reduceIte,Bool.true_eq_false,Bool.false_eq_true,Bool.not_true,Bool.not_false,true_and,and_true,and_assoc,qaj,sub1,qc8,qc7,qc9,List.length_replicate,Nat.le_refl,false_implies,true_implies,ne_eq,not_true_eq_false,not_false_eq_true,decide_true,decide_false,decide_eq_true_eq,decide_eq_false_iff_not,Bool.not_eq_true',Bool.not_eq_false']
    exact out_bool rfl
  have c : ¬(100 : Int) < text.length := by omega
  have q0 : pre18 [.v (.int .u64 500)] := ⟨500, rfl, by decide⟩
  obtain ⟨L, hL⟩ : ∃ L : Int, off + (text.length : Int) = L := ⟨_, rfl⟩
  have w1 : Go.IntKind.u64.wrap off = off := by rw [wrap_u64]; omega
  have w2 : Go.IntKind.u64.wrap (text.length : Int) = text.length := by rw [wrap_u64]; omega
  have w3 : Go.IntKind.u64.wrap (off + (text.length : Int)) = L := by rw [wrap_u64]; omega
  have w4 : Go.IntKind.u64.wrap more = more := by rw [wrap_u64]; omega
  have w5 : Go.IntKind.u64.wrap (L + 1) = L + 1 := by rw [wrap_u64]; omega
  have w6 : Go.IntKind.u64.wrap (L + 1 + more) = L + 1 + more := by rw [wrap_u64]; omega
  obtain ⟨n, hn⟩ : ∃ n : Nat, off = n := ⟨off.toNat, by omega⟩
  -- the states
  obtain ⟨s0, hs0⟩ : ∃ s0, Inl.new 500 = s0 := ⟨_, rfl⟩
  obtain ⟨s1, hs1⟩ : ∃ s1, s1 = Inl.mk 500 0 500 L (putN 0 off text [] text.length) true L false 0 := ⟨_, rfl⟩
  obtain ⟨s2, hs2⟩ : ∃ s2, s2 = Inl.mk 500 0 500 L (putN 0 0 (List.replicate n 0) s1.o n) true L false 0 := ⟨_, rfl⟩
  have n1 : (1 : Int) ≤ 1 := by decide
  have k0 : s0.w = 500 ∧ s0.r = 0 ∧ s0.l = 500 ∧ s0.t = 0 ∧ s0.o = [] ∧ s0.f = false ∧ s0.g = 0 ∧ s0.z = false ∧ s0.c = 0 := by rw [← hs0]; exact ⟨rfl, rfl, rfl, rfl, rfl, rfl, rfl, rfl, rfl⟩
  have k1 : s1.w = 500 ∧ s1.r = 0 ∧ s1.l = 500 ∧ s1.t = L ∧ s1.f = true ∧ s1.g = L ∧ s1.z = false ∧ s1.c = 0 := by rw [hs1]; exact ⟨rfl, rfl, rfl, rfl, rfl, rfl, rfl, rfl⟩
  have k2 : s2.w = 500 ∧ s2.r = 0 ∧ s2.l = 500 ∧ s2.t = L ∧ s2.f = true ∧ s2.g = L ∧ s2.z = false ∧ s2.c = 0 := by rw [hs2]; exact ⟨rfl, rfl, rfl, rfl, rfl, rfl, rfl, rfl⟩
  have o0 : s0.Ok := ⟨by omega, by omega, by omega, by omega, by omega, by rw [k0.2.2.2.2.1]; decide⟩
  have o1 : s1.Ok := ⟨by omega, by omega, by omega, by omega, by omega, by rw [hs1]; exact putN_len0 rfl (by omega) (by simp)⟩
  have o2 : s2.Ok := ⟨by omega, by omega, by omega, by omega, by omega, by rw [hs2]; exact putN_len0 rfl (by omega) o1.o⟩
  have a1 : putI s0 off text true = (s1, L, 0) := by
    rw [put_ok (by omega) (end_0 (by omega) (by simp [k0.2.2.2.2.2.1]; omega)) k0.2.2.2.2.2.2.2.1, hL, ← hs0, hs1]
    simp only [Inl.new, Inl.fin, if_true, show max 0 L = L by omega, Int.sub_zero]
  have a2 : putI s1 L [1] false = (s1, 0, 31) := by
    have h1 : L + (([1] : List Int).length : Int) = L + 1 := rfl
    have e := end_31 (s := s1) (to := L + 1) (fin := false) (by omega) (.inl ⟨k1.2.2.2.2.1, .inl (by omega)⟩)
    rw [put_bad (by rw [h1]; omega) (by rw [h1, e]; decide), h1, e]
  have z0 : (0 : Int) + (([] : List Int).length : Int) = 0 := rfl
  have hz1 : max L 0 = L := by omega
  have a3 : putI s1 0 [] true = (s1, 0, if L = 0 then 0 else 31) := by
    by_cases h : L = 0
    · rw [if_pos h, put_ok (by decide) (by rw [z0]; exact end_0 (by omega) (by simp [k1.2.2.2.2.1]; omega)) k1.2.2.2.2.2.2.1, z0, hs1]
      simp only [Inl.fin, if_true, List.length_nil, putN, h, show max (0 : Int) 0 = 0 by decide, Int.sub_self]
    · have e := end_31 (s := s1) (to := 0) (fin := true) (by omega) (.inl ⟨k1.2.2.2.2.1, .inr ⟨rfl, by omega⟩⟩)
      rw [if_neg h, put_bad (by decide) (by rw [z0, e]; decide), z0, e]
  have a4 : resetI s1 (L + 1 + more) code = (s1, 0, if 500 < L + 1 + more then 30 else 31) := by
    by_cases h : 500 < L + 1 + more
    · have e := end_30 (s := s1) (to := L + 1 + more) (fin := true) (by omega)
      rw [resetI, if_pos (by rw [e]; decide), e, if_pos h]
    · have e := end_31 (s := s1) (to := L + 1 + more) (fin := true) (by omega) (.inl ⟨k1.2.2.2.2.1, .inl (by omega)⟩)
      rw [resetI, if_pos (by rw [e]; decide), e, if_neg h]
  have a5 : putI s1 0 (List.replicate n 0) false = (s2, 0, 0) := by
    have h1 : (0 : Int) + ((List.replicate n (0 : Int)).length : Int) = n := by simp
    rw [put_ok (by rw [h1]; omega) (by rw [h1]; exact end_0 (by omega) (by simp [k1.2.2.2.2.1]; omega)) k1.2.2.2.2.2.2.1, h1, hs2]
    simp only [Inl.fin, Bool.false_eq_true, if_false, k1.2.2.2.1, show max L (n : Int) = L by omega, Int.sub_self, List.length_replicate, k1.2.1]
    rw [hs1]
  obtain ⟨s3, hs3⟩ : ∃ s3, s3 = (if L = 0 then s2 else { s2 with z := true, c := code, o := [] }) := ⟨_, rfl⟩
  have a6 : resetI s2 L code = (s3, 0, 0) := by
    have e := end_0 (s := s2) (to := L) (fin := true) (by omega) (by simp [k2.2.2.2.2.1, k2.2.2.2.2.2.1]; omega)
    rw [resetI, if_neg (by rw [e]; decide), hs3]
    by_cases h : L = 0
    · rw [if_neg (by simp [Inl.over, k2.2.2.2.2.1, k2.2.1, h]), if_pos h, k2.2.2.2.1, Int.sub_self, hs2]
    · rw [if_pos ⟨k2.2.2.2.2.2.2.1, by simp [Inl.over, k2.2.1]; intro _; omega⟩, if_neg h, k2.2.2.2.1, Int.sub_self, hs2]
  have k3 : (L = 0 → s3.z = false) ∧ (¬L = 0 → s3.z = true ∧ s3.c = code) := by
    rw [hs3]
    constructor
    · intro h; rw [if_pos h]; exact k2.2.2.2.2.2.2.1
    · intro h; rw [if_neg h]; exact ⟨rfl, rfl⟩
  have o3 : s3.Ok := by
    rw [hs3]
    split
    · exact o2
    · exact ⟨o2.w, o2.r, o2.l, o2.t, o2.g, by simp⟩
  have pf : ∀ (x : Inl), x.fs = [.v (.int .u64 x.w), .v (.int .u64 x.r), .v (.int .u64 x.l), .v (.int .u64 x.t), .s 1 x.o.length .u8 (bys x.o), .c 1 x.o.length (hss x.o), .v (.bool x.f), .v (.int .u64 x.g), .v (.bool x.z), .v (.int .u64 x.c)] := fun _ => rfl
  have r1 := p_put s0 (off := off) (fin := true) (.inr rfl : PartB (.rsl 1 text.length .u8 text) text) o0 (by omega) (by omega) (by omega)
  have r2 := p_put s1 (off := L) (fin := false) (.inr rfl : PartB (.rsl 1 1 .u8 [1]) [1]) o1 (by omega) (by omega) (by decide)
  have r3 := p_put s1 (off := 0) (fin := true) (.inl ⟨rfl, rfl⟩ : PartB .nils []) o1 (by omega) (by omega) (by decide)
  have r4 := p_reset s1 (long := L + 1 + more) (code := code) o1 (by omega) (by omega)
  have r5 := p_put s1 (off := 0) (fin := false) (.inr (by rw [List.length_replicate]) : PartB (.rsl 1 n .u8 (List.replicate n 0)) (List.replicate n 0)) o1 (by omega) (by omega) (by rw [List.length_replicate]; omega)
  have r6 := p_reset s2 (long := L) (code := code) o2 (by omega) (by omega)
  have r7 := p_I s3 o3
  have b1 : bOfV (.rsl 1 text.length .u8 text) = text := rfl
  have b2 : bOfV (.rsl 1 1 .u8 [1]) = [1] := rfl
  have b3 : bOfV .nils = [] := rfl
  have b5 : bOfV (.rsl 1 n .u8 (List.replicate n 0)) = List.replicate n 0 := rfl
  have hon : off.toNat = n := by omega
  have srep : sub (List.replicate n (0 : Int)) 0 n = List.replicate n 0 := qc9 n 0
  have s11 : sub ([1] : List Int) 0 1 = [1] := rfl
  by_cases hL0 : L = 0 <;> by_cases h5 : 500 < L + 1 + more
  all_goals
    first
      | rw [if_pos h5] at a4
      | rw [if_neg h5] at a4
    first
      | (rw [if_pos hL0] at a3
         have k4 := k3.1 hL0)
      | (rw [if_neg hL0] at a3
         have k4 := (k3.2 hL0).1
         have k5 := (k3.2 hL0).2)
  · have g7 := c_fI s3
    rw [k4] at r7 g7
    have hLt : (L = 0) = True := eq_true hL0
    simp only [ir5,rs5,gl,FT,qa,st,c,q0,F18,hs0,pf,w1,w2,w3,w4,w5,w6,c_put,c_reset,g7,r1,r2,r3,r4,r5,r6,r7,b1,b2,b3,b5,a1,a2,a3,a4,a5,a6,hon,srep,s11,F26,bys_len,hss_len,sub_bys,sub_hss,purs_hss,pursR_hss,↓frzs_hss,k4,hLt,h5,↓qar,↓qao,↓qap,↓qaq,↓qan,↓qak,↓qal,↓qam,idsEs,idsE,idss,killB,effE,stA,deads,nwA,cntA,cnts,cnt,valO,blkO,inj,injs,blk,blks,outA,outR,outE,outEs,sids,List.nodup_cons,List.nodup_nil,List.not_mem_nil,List.mem_cons,or_false,false_or,not_or,qda,qc6,qaj,List.length_cons,List.length_nil,Nat.reduceAdd,Nat.le_refl,Nat.reduceLeDiff,Nat.reduceLT,true_and,and_true,↓qax,↓qay,↓qa0,↓qaz,↓qcs,↓qbj,↓qa1,↓qcl,↓qb3,↓qci,↓qcb,↓qce,↓qcf,↓qb4,↓qcd,↓qcj,↓qb5,↓qcg,↓qch,↓qb6,↓qcc,↓qca,↓qb9,↓qb8,↓qb7,↓qa5,↓qbc,↓qa6,↓qbd,↓qa7,↓qbe,↓qa8,↓qbf,↓qa9,↓qbg,↓qba,↓qbh,↓qbb,↓qbi,↓qb2,↓qck,↓qfa,↓qco,↓qcp,↓qcq,↓qcn,↓qcm,↓qbm,↓qbn,↓qb0,↓qbv,↓qbq,↓qbu,↓qbz,↓qbw,↓qby,↓qbx,↓qbr,↓qbp,↓qb1,↓qbs,↓qbt,↓qbo,↓qex,↓qew,↓qe1,↓qe3,↓qe2,↓qev,↓qeu,↓qer,↓qes,↓qe0,↓qez,↓qey,qc5,↓qeo,↓qep,↓qet,↓qc4,↓qc2,↓qc3,↓qe5,↓qe6,↓qe7,↓qe4,qaa,↓qeq,↓qed,↓qee,↓qe9,↓qe8,↓qeg,↓qdj,↓qdr,↓qd8,↓qd9,↓qel,↓qem,↓qdn,↓qdo,↓qdq,↓qdp,↓qdw,↓qen,↓qdu,↓qeh,↓qdm,↓qeb,↓qei,↓qej,↓qek,↓qd0,↓qdz,↓qd1,↓qd2,↓qd4,↓qdy,↓qd5,↓qd7,↓qd6,↓qdk,↓qdl,↓qdx,↓qaw,↓qdv,↓qec,↓qef,↓qea,↓qd3,qav,List.drop_zero,Nat.sub_zero,qcy,qct,qcu,qdh,qat,qas,qaf,List.map_cons,List.map_nil,List.zip_cons_cons,List.zip_nil_right,List.zip_nil_left,qau,evs,evp,mkB,repB,blen,qae,qad,qac,qab,qc1,qc0,qdg,qdi,qde,qdf,qcx,qcz,qcv,qcw,↓qdc,↓qdb,↓qdd,↓qah,↓qag,↓qai,↓retQ,res,resAll,resOne,kill,apartOk,exp,injV,injB,pur,purs,purR,pursR,List.set_cons_zero,List.set_cons_succ,List.length_cons,List.length_nil,List.cons_append,List.nil_append,List.append_nil,List.append_assoc,List.length_append,List.reduceReplicate,Nat.reduceAdd,Nat.reduceMul,Nat.reduceSub,Nat.reduceEqDiff,Nat.reduceLT,Nat.zero_add,Nat.add_zero,Nat.mul_one,Int.reduceToNat,Int.toNat_natCast,Int.cast_ofNat_Int,Int.reduceLE,Int.reduceLT,Int.reduceEq,reduceCtorEq,↓reduceIte,Bool.true_eq_false,Bool.false_eq_true,Bool.not_true,Bool.not_false,true_and,and_true,and_assoc,qaj,sub1,qc8,qc7,qc9,List.length_replicate,Nat.le_refl,false_implies,true_implies,ne_eq,not_true_eq_false,not_false_eq_true,decide_true,decide_false,decide_eq_true_eq,decide_eq_false_iff_not,Bool.not_eq_true',Bool.not_eq_false']
    first
      | exact ⟨by omega, by omega, by omega, out_bool rfl⟩
      | exact ⟨by omega, by omega, by omega, fun _ => out_bool rfl, fun _ => out_bool rfl⟩
  · have g7 := c_fI s3
    rw [k4] at r7 g7
    have hLt : (L = 0) = True := eq_true hL0
    simp only [ir5,rs5,gl,FT,qa,st,c,q0,F18,hs0,pf,w1,w2,w3,w4,w5,w6,c_put,c_reset,g7,r1,r2,r3,r4,r5,r6,r7,b1,b2,b3,b5,a1,a2,a3,a4,a5,a6,hon,srep,s11,F26,bys_len,hss_len,sub_bys,sub_hss,purs_hss,pursR_hss,↓frzs_hss,k4,hLt,h5,↓qar,↓qao,↓qap,↓qaq,↓qan,↓qak,↓qal,↓qam,idsEs,idsE,idss,killB,effE,stA,deads,nwA,cntA,cnts,cnt,valO,blkO,inj,injs,blk,blks,outA,outR,outE,outEs,sids,List.nodup_cons,List.nodup_nil,List.not_mem_nil,List.mem_cons,or_false,false_or,not_or,qda,qc6,qaj,List.length_cons,List.length_nil,Nat.reduceAdd,Nat.le_refl,Nat.reduceLeDiff,Nat.reduceLT,true_and,and_true,↓qax,↓qay,↓qa0,↓qaz,↓qcs,↓qbj,↓qa1,↓qcl,↓qb3,↓qci,↓qcb,↓qce,↓qcf,↓qb4,↓qcd,↓qcj,↓qb5,↓qcg,↓qch,↓qb6,↓qcc,↓qca,↓qb9,↓qb8,↓qb7,↓qa5,↓qbc,↓qa6,↓qbd,↓qa7,↓qbe,↓qa8,↓qbf,↓qa9,↓qbg,↓qba,↓qbh,↓qbb,↓qbi,↓qb2,↓qck,↓qfa,↓qco,↓qcp,↓qcq,↓qcn,↓qcm,↓qbm,↓qbn,↓qb0,↓qbv,↓qbq,↓qbu,↓qbz,↓qbw,↓qby,↓qbx,↓qbr,↓qbp,↓qb1,↓qbs,↓qbt,↓qbo,↓qex,↓qew,↓qe1,↓qe3,↓qe2,↓qev,↓qeu,↓qer,↓qes,↓qe0,↓qez,↓qey,qc5,↓qeo,↓qep,↓qet,↓qc4,↓qc2,↓qc3,↓qe5,↓qe6,↓qe7,↓qe4,qaa,↓qeq,↓qed,↓qee,↓qe9,↓qe8,↓qeg,↓qdj,↓qdr,↓qd8,↓qd9,↓qel,↓qem,↓qdn,↓qdo,↓qdq,↓qdp,↓qdw,↓qen,↓qdu,↓qeh,↓qdm,↓qeb,↓qei,↓qej,↓qek,↓qd0,↓qdz,↓qd1,↓qd2,↓qd4,↓qdy,↓qd5,↓qd7,↓qd6,↓qdk,↓qdl,↓qdx,↓qaw,↓qdv,↓qec,↓qef,↓qea,↓qd3,qav,List.drop_zero,Nat.sub_zero,qcy,qct,qcu,qdh,qat,qas,qaf,List.map_cons,List.map_nil,List.zip_cons_cons,List.zip_nil_right,List.zip_nil_left,qau,evs,evp,mkB,repB,blen,qae,qad,qac,qab,qc1,qc0,qdg,qdi,qde,qdf,qcx,qcz,qcv,qcw,↓qdc,↓qdb,↓qdd,↓qah,↓qag,↓qai,↓retQ,res,resAll,resOne,kill,apartOk,exp,injV,injB,pur,purs,purR,pursR,List.set_cons_zero,List.set_cons_succ,List.length_cons,List.length_nil,List.cons_append,List.nil_append,List.append_nil,List.append_assoc,List.length_append,List.reduceReplicate,Nat.reduceAdd,Nat.reduceMul,Nat.reduceSub,Nat.reduceEqDiff,Nat.reduceLT,Nat.zero_add,Nat.add_zero,Nat.mul_one,Int.reduceToNat,Int.toNat_natCast,Int.cast_ofNat_Int,Int.reduceLE,Int.reduceLT,Int.reduceEq,reduceCtorEq,↓reduceIte,Bool.true_eq_false,Bool.false_eq_true,Bool.not_true,Bool.not_false,true_and,and_true,and_assoc,qaj,sub1,qc8,qc7,qc9,List.length_replicate,Nat.le_refl,false_implies,true_implies,ne_eq,not_true_eq_false,not_false_eq_true,decide_true,decide_false,decide_eq_true_eq,decide_eq_false_iff_not,Bool.not_eq_true',Bool.not_eq_false']
    first
      | exact ⟨by omega, by omega, by omega, out_bool rfl⟩
      | exact ⟨by omega, by omega, by omega, fun _ => out_bool rfl, fun _ => out_bool rfl⟩
  · have g7 := c_fI s3
    rw [k4, k5] at r7 g7
    simp only [ir5,rs5,gl,FT,qa,st,c,q0,F18,hs0,pf,w1,w2,w3,w4,w5,w6,c_put,c_reset,g7,r1,r2,r3,r4,r5,r6,r7,b1,b2,b3,b5,a1,a2,a3,a4,a5,a6,hon,srep,s11,F26,bys_len,hss_len,sub_bys,sub_hss,purs_hss,pursR_hss,↓frzs_hss,k4,hL0,k5,h5,↓qar,↓qao,↓qap,↓qaq,↓qan,↓qak,↓qal,↓qam,idsEs,idsE,idss,killB,effE,stA,deads,nwA,cntA,cnts,cnt,valO,blkO,inj,injs,blk,blks,outA,outR,outE,outEs,sids,List.nodup_cons,List.nodup_nil,List.not_mem_nil,List.mem_cons,or_false,false_or,not_or,qda,qc6,qaj,List.length_cons,List.length_nil,Nat.reduceAdd,Nat.le_refl,Nat.reduceLeDiff,Nat.reduceLT,true_and,and_true,↓qax,↓qay,↓qa0,↓qaz,↓qcs,↓qbj,↓qa1,↓qcl,↓qb3,↓qci,↓qcb,↓qce,↓qcf,↓qb4,↓qcd,↓qcj,↓qb5,↓qcg,↓qch,↓qb6,↓qcc,↓qca,↓qb9,↓qb8,↓qb7,↓qa5,↓qbc,↓qa6,↓qbd,↓qa7,↓qbe,↓qa8,↓qbf,↓qa9,↓qbg,↓qba,↓qbh,↓qbb,↓qbi,↓qb2,↓qck,↓qfa,↓qco,↓qcp,↓qcq,↓qcn,↓qcm,↓qbm,↓qbn,↓qb0,↓qbv,↓qbq,↓qbu,↓qbz,↓qbw,↓qby,↓qbx,↓qbr,↓qbp,↓qb1,↓qbs,↓qbt,↓qbo,↓qex,↓qew,↓qe1,↓qe3,↓qe2,↓qev,↓qeu,↓qer,↓qes,↓qe0,↓qez,↓qey,qc5,↓qeo,↓qep,↓qet,↓qc4,↓qc2,↓qc3,↓qe5,↓qe6,↓qe7,↓qe4,qaa,↓qeq,↓qed,↓qee,↓qe9,↓qe8,↓qeg,↓qdj,↓qdr,↓qd8,↓qd9,↓qel,↓qem,↓qdn,↓qdo,↓qdq,↓qdp,↓qdw,↓qen,↓qdu,↓qeh,↓qdm,↓qeb,↓qei,↓qej,↓qek,↓qd0,↓qdz,↓qd1,↓qd2,↓qd4,↓qdy,↓qd5,↓qd7,↓qd6,↓qdk,↓qdl,↓qdx,↓qaw,↓qdv,↓qec,↓qef,↓qea,↓qd3,qav,List.drop_zero,Nat.sub_zero,qcy,qct,qcu,qdh,qat,qas,qaf,List.map_cons,List.map_nil,List.zip_cons_cons,List.zip_nil_right,List.zip_nil_left,qau,evs,evp,mkB,repB,blen,qae,qad,qac,qab,qc1,qc0,qdg,qdi,qde,qdf,qcx,qcz,qcv,qcw,↓qdc,↓qdb,↓qdd,↓qah,↓qag,↓qai,↓retQ,res,resAll,resOne,kill,apartOk,exp,injV,injB,pur,purs,purR,pursR,List.set_cons_zero,List.set_cons_succ,List.length_cons,List.length_nil,List.cons_append,List.nil_append,List.append_nil,List.append_assoc,List.length_append,List.reduceReplicate,Nat.reduceAdd,Nat.reduceMul,Nat.reduceSub,Nat.reduceEqDiff,Nat.reduceLT,Nat.zero_add,Nat.add_zero,Nat.mul_one,Int.reduceToNat,Int.toNat_natCast,Int.cast_ofNat_Int,Int.reduceLE,Int.reduceLT,Int.reduceEq,reduceCtorEq,↓reduceIte,Bool.true_eq_false,Bool.false_eq_true,Bool.not_true,Bool.not_false,true_and,and_true,and_assoc,qaj,sub1,qc8,qc7,qc9,List.length_replicate,Nat.le_refl,false_implies,true_implies,ne_eq,not_true_eq_false,not_false_eq_true,decide_true,decide_false,decide_eq_true_eq,decide_eq_false_iff_not,Bool.not_eq_true',Bool.not_eq_false']
    first
      | exact ⟨by omega, by omega, by omega, out_bool rfl⟩
      | exact ⟨by omega, by omega, by omega, fun _ => out_bool rfl, fun _ => out_bool rfl⟩
  · have g7 := c_fI s3
    rw [k4, k5] at r7 g7
    simp only [ir5,rs5,gl,FT,qa,st,c,q0,F18,hs0,pf,w1,w2,w3,w4,w5,w6,c_put,c_reset,g7,r1,r2,r3,r4,r5,r6,r7,b1,b2,b3,b5,a1,a2,a3,a4,a5,a6,hon,srep,s11,F26,bys_len,hss_len,sub_bys,sub_hss,purs_hss,pursR_hss,↓frzs_hss,k4,hL0,k5,h5,↓qar,↓qao,↓qap,↓qaq,↓qan,↓qak,↓qal,↓qam,idsEs,idsE,idss,killB,effE,stA,deads,nwA,cntA,cnts,cnt,valO,blkO,inj,injs,blk,blks,outA,outR,outE,outEs,sids,List.nodup_cons,List.nodup_nil,List.not_mem_nil,List.mem_cons,or_false,false_or,not_or,qda,qc6,qaj,List.length_cons,List.length_nil,Nat.reduceAdd,Nat.le_refl,Nat.reduceLeDiff,Nat.reduceLT,true_and,and_true,↓qax,↓qay,↓qa0,↓qaz,↓qcs,↓qbj,↓qa1,↓qcl,↓qb3,↓qci,↓qcb,↓qce,↓qcf,↓qb4,↓qcd,↓qcj,↓qb5,↓qcg,↓qch,↓qb6,↓qcc,↓qca,↓qb9,↓qb8,↓qb7,↓qa5,↓qbc,↓qa6,↓qbd,↓qa7,↓qbe,↓qa8,↓qbf,↓qa9,↓qbg,↓qba,↓qbh,↓qbb,↓qbi,↓qb2,↓qck,↓qfa,↓qco,↓qcp,↓qcq,↓qcn,↓qcm,↓qbm,↓qbn,↓qb0,↓qbv,↓qbq,↓qbu,↓qbz,↓qbw,↓qby,↓qbx,↓qbr,↓qbp,↓qb1,↓qbs,↓qbt,↓qbo,↓qex,↓qew,↓qe1,↓qe3,↓qe2,↓qev,↓qeu,↓qer,↓qes,↓qe0,↓qez,↓qey,qc5,↓qeo,↓qep,↓qet,↓qc4,↓qc2,↓qc3,↓qe5,↓qe6,↓qe7,↓qe4,qaa,↓qeq,↓qed,↓qee,↓qe9,↓qe8,↓qeg,↓qdj,↓qdr,↓qd8,↓qd9,↓qel,↓qem,↓qdn,↓qdo,↓qdq,↓qdp,↓qdw,↓qen,↓qdu,↓qeh,↓qdm,↓qeb,↓qei,↓qej,↓qek,↓qd0,↓qdz,↓qd1,↓qd2,↓qd4,↓qdy,↓qd5,↓qd7,↓qd6,↓qdk,↓qdl,↓qdx,↓qaw,↓qdv,↓qec,↓qef,↓qea,↓qd3,qav,List.drop_zero,Nat.sub_zero,qcy,qct,qcu,qdh,qat,qas,qaf,List.map_cons,List.map_nil,List.zip_cons_cons,List.zip_nil_right,List.zip_nil_left,qau,evs,evp,mkB,repB,blen,qae,qad,qac,qab,qc1,qc0,qdg,qdi,qde,qdf,qcx,qcz,qcv,qcw,↓qdc,↓qdb,↓qdd,↓qah,↓qag,↓qai,↓retQ,res,resAll,resOne,kill,apartOk,exp,injV,injB,pur,purs,purR,pursR,List.set_cons_zero,List.set_cons_succ,List.length_cons,List.length_nil,List.cons_append,List.nil_append,List.append_nil,List.append_assoc,List.length_append,List.reduceReplicate,Nat.reduceAdd,Nat.reduceMul,Nat.reduceSub,Nat.reduceEqDiff,Nat.reduceLT,Nat.zero_add,Nat.add_zero,Nat.mul_one,Int.reduceToNat,Int.toNat_natCast,Int.cast_ofNat_Int,Int.reduceLE,Int.reduceLT,Int.reduceEq,reduceCtorEq,↓reduceIte,Bool.true_eq_false,Bool.false_eq_true,Bool.not_true,Bool.not_false,true_and,and_true,and_assoc,qaj,sub1,qc8,qc7,qc9,List.length_replicate,Nat.le_refl,false_implies,true_implies,ne_eq,not_true_eq_false,not_false_eq_true,decide_true,decide_false,decide_eq_true_eq,decide_eq_false_iff_not,Bool.not_eq_true',Bool.not_eq_false']
    first
      | exact ⟨by omega, by omega, by omega, out_bool rfl⟩
      | exact ⟨by omega, by omega, by omega, fun _ => out_bool rfl, fun _ => out_bool rfl⟩
end Am
set_option linter.unusedSimpArgs false
set_option linter.unusedVariables false
set_option maxRecDepth 20000
namespace Am
open Go.Proofs
/-! ### InletAll, in plain words -/
structure IA (text : List Int) (s : Inl) (got : List Int) (ended : Bool) : Prop where
  w : s.w = 200
  l : s.l = 200
  z : s.z = false
  r : s.r = got.length
  gt : got = text.take got.length
  le : got.length ≤ text.length
  t : 0 ≤ s.t ∧ s.t ≤ text.length
  f : s.f = true → s.g = text.length
  g : 0 ≤ s.g ∧ s.g ≤ 200
  o : ∀ k x, s.o.getD k none = some x → got.length + k < text.length ∧ x = getI text (got.length + k)
  ol : s.o.length ≤ text.length
  e : ended = true → got.length = text.length
theorem IA.ok {text : List Int} {s : Inl} {got : List Int} {ended : Bool} (h : IA text s got ended) (hl : text.length ≤ 200) : s.Ok :=
  ⟨by rw [h.w]; decide, by rw [h.r]; have := h.le; omega, by rw [h.l]; decide, by have := h.t; omega, by have := h.g; omega, by have := h.ol; omega⟩
theorem IA.new (text : List Int) : IA text (Inl.new 200) [] false :=
  ⟨rfl, rfl, rfl, rfl, by simp, by simp, ⟨by decide, by show (0 : Int) ≤ _; omega⟩, by simp [Inl.new], by decide, by simp [Inl.new], by simp [Inl.new], by simp⟩
theorem putN_len2 {r off : Int} {b : List Int} {o : List (Option Int)} {n m : Nat} (h : off + n - r ≤ m) (h2 : o.length ≤ m) : (putN r off b o n).length ≤ m := by
  have := (putN_len r off b o n).1
  omega
theorem IA.put {text : List Int} {s : Inl} {got : List Int} {ended : Bool} (h : IA text s got ended) (hl : text.length ≤ 200) {from_ to : Nat} {fin : Bool} (h1 : from_ ≤ to) (h2 : to ≤ text.length) (hf : fin = true ↔ to = text.length) :
    ∃ s1 m, putI s from_ (sub text from_ (to - from_)) fin = (s1, m, 0) ∧ IA text s1 got ended ∧ (fin = true → s1.f = true) ∧ (from_ = 0 → to = text.length → ∀ k, got.length + k < text.length → (s1.o.getD k none).isSome = true) := by
  have hsl : (sub text from_ (to - from_)).length = to - from_ := by simp [sub]; omega
  have hto : (from_ : Int) + ((sub text from_ (to - from_)).length : Int) = to := by rw [hsl]; omega
  have he : s.end_ to fin = 0 := by
    refine end_0 (by rw [h.l]; omega) ?_
    rintro (⟨hf1, h3 | ⟨h3, h4⟩⟩ | ⟨h3, h4⟩)
    · rw [h.f hf1] at h3; omega
    · rw [h.f hf1] at h4; have := hf.1 h3; omega
    · have := hf.1 h3; have := h.t; omega
  refine ⟨_, _, put_ok (by rw [hto]; omega) (by rw [hto]; exact he) h.z, ?_, ?_, ?_⟩
  · rw [hto, hsl]
    have hfin : ∀ (b : Bool) (p q : Int), (s.fin b q).w = s.w ∧ (s.fin b q).r = s.r ∧ (s.fin b q).l = s.l ∧ (s.fin b q).z = s.z := by
      intro b p q
      unfold Inl.fin
      cases b <;> exact ⟨rfl, rfl, rfl, rfl⟩
    have hF := hfin fin 0 to
    refine ⟨by simp only [hF, h.w], by simp only [hF, h.l], by simp only [hF, h.z], by simp only [hF, h.r], h.gt, h.le, ⟨by simp only; have := h.t; omega, by simp only; have := h.t; omega⟩, ?_, ?_, ?_, ?_, h.e⟩
    · intro hff
      simp only at hff ⊢
      unfold Inl.fin at hff ⊢
      cases hfb : fin with
      | true => rw [hfb] at hff; have := hf.1 hfb; simp only [if_true]; omega
      | false => rw [hfb] at hff; exact h.f hff
    · simp only
      unfold Inl.fin
      cases fin with
      | true => simp only [if_true]; omega
      | false => exact h.g
    · intro k x hk
      simp only at hk
      rw [putN_get, h.r] at hk
      split at hk
      · exact h.o k x hk
      · split at hk
        · rename_i hr
          obtain rfl := Option.some.inj hk
          refine ⟨by omega, ?_⟩
          rw [getI_sub (by omega)]
          congr 1
          omega
        · cases hk
    · simp only
      refine putN_len2 ?_ h.ol
      rw [h.r]; omega
  · intro hfb
    simp only
    unfold Inl.fin
    rw [hfb]; rfl
  · intro h3 h4 k hk
    simp only
    rw [putN_get, h.r]
    split
    · assumption
    · rw [if_pos (by rw [hsl]; omega)]; rfl
def endF (s : Inl) (n : Int) : Bool := !s.z && (s.f && decide (s.r + s.many n = s.g))
theorem take_bys {o : List (Option Int)} {text : List Int} {p : Nat} (h : ∀ k x, o.getD k none = some x → p + k < text.length ∧ x = getI text (p + k)) : ∀ k, k ≤ lead o → p + k ≤ max p text.length ∧ (p ≤ text.length → text.take p ++ bys (o.take k) = text.take (p + k)) := by
  intro k
  induction k with
  | zero => intro _; exact ⟨by omega, by simp [bys]⟩
  | succ k ih =>
    intro hk
    obtain ⟨i1, i2⟩ := ih (by omega)
    have hs := lead_lt o k (by omega)
    cases hx : o.getD k none with
    | none => rw [hx] at hs; cases hs
    | some x =>
      obtain ⟨a, b⟩ := h k x hx
      refine ⟨by omega, fun hp => ?_⟩
      have hkl : k < o.length := by have := lead_le o; omega
      have e : o.take (k + 1) = o.take k ++ [some x] := by
        rw [List.take_succ_eq_append_getElem hkl]
        congr 2
        simpa [List.getD, hkl] using hx
      have e2 : bys (o.take (k + 1)) = bys (o.take k) ++ [x] := by rw [e]; simp [bys]
      rw [e2, ← List.append_assoc, i2 hp, ← Nat.add_assoc]
      rw [List.take_succ_eq_append_getElem (by omega), b, getI_eq (by omega)]
theorem IA.read {text : List Int} {s : Inl} {got : List Int} {ended : Bool} (h : IA text s got ended) (n : Int) :
    IA text (s.read n) (got ++ outI s n) (ended || endF s n) ∧ (endF s n = true → (got ++ outI s n).length = text.length) ∧ (s.read n).f = s.f ∧ (ended = true → (outI s n).length = 0) := by
  obtain ⟨k, hk⟩ : ∃ k, s.many n = k := ⟨_, rfl⟩
  have hkl : k ≤ lead s.o := by rw [← hk]; unfold Inl.many; omega
  have hko := lead_le s.o
  have hout : outI s n = bys (s.o.take k) := by rw [outI, h.z, hk]; rfl
  have hol : (outI s n).length = k := by rw [hout, bys_len, List.length_take]; omega
  have hread : s.read n = { s with o := s.o.drop k, r := s.r + k } := by rw [Inl.read, h.z, hk]; rfl
  obtain ⟨t1, t2⟩ := take_bys h.o k hkl
  have hle : got.length + k ≤ text.length := by have := h.le; omega
  have hgot : got ++ outI s n = text.take (got.length + k) := by
    rw [hout, ← t2 h.le]
    congr 1
    exact h.gt
  have hgl : (got ++ outI s n).length = got.length + k := by rw [List.length_append, hol]
  have hend : endF s n = true → got.length + k = text.length := by
    intro he
    simp only [endF, h.z, Bool.not_false, Bool.true_and, Bool.and_eq_true, decide_eq_true_eq, hk] at he
    have h1 := h.f he.1
    have h2 := h.r
    omega
  refine ⟨?_, fun he => by rw [hgl]; exact hend he, by rw [hread], fun he => ?_⟩
  · rw [hread]
    refine ⟨h.w, h.l, h.z, by rw [hgl]; simp only [h.r]; push_cast; rfl, by rw [hgl]; exact hgot, by rw [hgl]; exact hle, h.t, h.f, h.g, ?_, ?_, ?_⟩
    · intro j x hj
      simp only at hj
      rw [hgl]
      have := h.o (k + j) x (by simpa [List.getD, List.getElem?_drop] using hj)
      rw [Nat.add_assoc]
      exact this
    · simp only [List.length_drop]; have := h.ol; omega
    · intro he
      rw [hgl]
      rw [Bool.or_eq_true] at he
      rcases he with he | he
      · have := h.e he; omega
      · exact hend he
  · have := h.e he
    omega
/-- Once all came, all is read. -/
theorem IA.last {text : List Int} {s : Inl} {got : List Int} {ended : Bool} (h : IA text s got ended) (hl : text.length ≤ 200) (hf : s.f = true) (hall : ∀ k, got.length + k < text.length → (s.o.getD k none).isSome = true) :
    got ++ outI s 1000 = text ∧ endF s 1000 = true := by
  have hlead : got.length + lead s.o = text.length := by
    have h1 : got.length + lead s.o ≤ text.length := by
      have := (take_bys h.o (lead s.o) (Nat.le_refl _)).1
      have := h.le
      omega
    rcases Nat.lt_or_ge (got.length + lead s.o) text.length with h2 | h2
    · have := hall (lead s.o) h2
      rw [lead_at] at this
      cases this
    · omega
  have hm : s.many 1000 = lead s.o := by
    unfold Inl.many
    have : (1000 : Int).toNat = 1000 := rfl
    omega
  have hout : outI s 1000 = bys (s.o.take (lead s.o)) := by rw [outI, h.z, hm]; rfl
  constructor
  · have := (take_bys h.o (lead s.o) (Nat.le_refl _)).2 h.le
    rw [hout]
    have e : got ++ bys (s.o.take (lead s.o)) = text.take (got.length + lead s.o) := by
      rw [← this]
      congr 1
      exact h.gt
    rw [e, hlead, List.take_length]
  · simp only [endF, h.z, hf, hm, Bool.not_false, Bool.true_and, decide_eq_true_eq]
    rw [h.f hf, h.r]
    omega
theorem done_of {s : Inl} {n : Int} (hz : s.z = false) (h : endF s n = true) : ((s.read n).z || ((s.read n).f && decide ((s.read n).r = (s.read n).g))) = true := by
  simp only [endF, hz, Bool.not_false, Bool.true_and, Bool.and_eq_true, decide_eq_true_eq] at h
  rw [Inl.read, hz]
  simp [h.1, h.2]
end Am
