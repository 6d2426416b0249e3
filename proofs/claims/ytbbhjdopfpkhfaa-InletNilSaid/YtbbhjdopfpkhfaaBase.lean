/-
Working texts: contracts of functions, and the numbers behind them.
-/
import Derived.Test.YtbbhjdopfpkhfaaIrA
import Derived.Test.YtbbhjdopfpkhfaaAmLoop
import Derived.Test.YtbbhjdopfpkhfaaAmNum
set_option linter.unusedSimpArgs false
set_option linter.unusedVariables false
set_option linter.unusedSectionVars false
set_option linter.unusedSimpArgs false
set_option linter.unusedVariables false
namespace Am
open Go.Proofs
def gl : List Blk := [.dead, .dead, .dead, .dead]
theorem gl_plain : Plain gl := by
  intro B hB
  simp only [gl, List.mem_cons, List.not_mem_nil, or_false] at hB
  rcases hB with rfl | rfl | rfl | rfl
  all_goals exact ⟨rfl, .inl rfl⟩
instance ge00 : Ge gl gl := ⟨rfl, rfl, gl_plain, fun _ => .inl rfl⟩
theorem mixed : Try.prog.follows .mixedOrders = true := by kernel_rfl
def bad : Out := .one (.v .nilp)
end Am
set_option linter.unusedSimpArgs false
set_option linter.unusedVariables false
set_option maxRecDepth 20000
namespace Am
open Go.Proofs
/-- A stream that is received: for each place from what was read on, whether a byte came, and which. -/
structure Inl where
  w : Int
  r : Int
  l : Int
  t : Int
  o : List (Option Int)
  f : Bool
  g : Int
  z : Bool
  c : Int
  deriving Inhabited
def bys (o : List (Option Int)) : List Int := o.map (·.getD 0)
def hss (o : List (Option Int)) : List V := o.map fun x => .bool x.isSome
def dec : List Int → List V → List (Option Int)
  | x :: xs, .bool b :: hs => (if b then some x else none) :: dec xs hs
  | _, _ => []
theorem dec_o : ∀ o : List (Option Int), dec (bys o) (hss o) = o
  | [] => rfl
  | none :: o => by
    show (if false then _ else none) :: dec (bys o) (hss o) = _
    rw [dec_o o]; rfl
  | some x :: o => by
    show (if true then some x else none) :: dec (bys o) (hss o) = _
    rw [dec_o o]; rfl
theorem bys_len (o : List (Option Int)) : (bys o).length = o.length := by simp [bys]
theorem hss_len (o : List (Option Int)) : (hss o).length = o.length := by simp [hss]
theorem pursR_hss : ∀ o : List (Option Int), pursR (hss o) = true
  | [] => rfl
  | x :: o => by
    show (purR (.bool x.isSome) && pursR (hss o)) = true
    rw [pursR_hss o]; rfl
theorem purs_hss : ∀ o : List (Option Int), purs (hss o) = true
  | [] => rfl
  | x :: o => by
    show (pur (.bool x.isSome) && purs (hss o)) = true
    rw [purs_hss o]; rfl
theorem frzs_hss {hp : List Blk} {d : Nat} : ∀ {o : List (Option Int)} {J : List V → Prop}, frzs (frz hp (d + 1)) (hss o) J = J (hss o)
  | [], J => by show frzs _ [] J = _; rw [frzs]; rfl
  | x :: o, J => by
    show frzs _ (.bool x.isSome :: hss o) J = _
    rw [frzs, qbp, frzs_hss]; rfl
theorem nth_hss {o : List (Option Int)} {k : Nat} (h : k < o.length) : nth (hss o) k = .bool (o.getD k none).isSome := by
  rw [nth_get, hss, List.getElem?_map]
  simp [List.getElem?_eq_getElem h, List.getD]
theorem getI_bys {o : List (Option Int)} {k : Nat} : getI (bys o) k = (o.getD k none).getD 0 := by
  simp only [getI, bys, List.getD_eq_getElem?_getD, List.getElem?_map]
  cases o[k]? <;> simp
/-- The object, field by field. -/
def Inl.fs (s : Inl) : List E := [.v (.int .u64 s.w), .v (.int .u64 s.r), .v (.int .u64 s.l), .v (.int .u64 s.t), .s 1 s.o.length .u8 (bys s.o), .c 1 s.o.length (hss s.o), .v (.bool s.f), .v (.int .u64 s.g), .v (.bool s.z), .v (.int .u64 s.c)]
def ofE : E → Inl
  | .p [.v (.int _ w), .v (.int _ r), .v (.int _ l), .v (.int _ t), .s _ _ _ b, .c _ _ h, .v (.bool f), .v (.int _ g), .v (.bool z), .v (.int _ c)] => ⟨w, r, l, t, dec b h, f, g, z, c⟩
  | _ => default
theorem ofE_fs (s : Inl) : ofE (.p s.fs) = s := by
  simp only [Inl.fs, ofE, dec_o]
def endE (l t : Int) (f : Bool) (g to : Int) (fin : Bool) : Int :=
  if l < to then 30 else if ((f && (decide (g < to) || (fin && !decide (to = g)))) || (fin && decide (to < t))) = true then 31 else 0
def pre58 (ds : List D) : Prop := ∃ (w r l t g c to : Int) (a b : V) (f z fin : Bool), ds = [.v (.rpc [.int .u64 w, .int .u64 r, .int .u64 l, .int .u64 t, a, b, .bool f, .int .u64 g, .bool z, .int .u64 c] 0), .v (.int .u64 to), .v (.bool fin)]
def F58 : List D → Out
  | [.v (.rpc [_, _, .int _ l, .int _ t, _, _, .bool f, .int _ g, _, _] _), .v (.int _ to), .v (.bool fin)] => .one (.v (.int .i64 (endE l t f g to fin)))
  | _ => bad
def s58 : Summ := sData [.r, .v, .v] pre58 F58
set_option maxHeartbeats 4000000 in
theorem ok58 {g : List Blk} [Ge gl g] : SumOK Try.prog g 58 s58 ∧ SumAbs s58 := by
  refine fsumA (l := []) mixed gl_plain rfl Try.func58 comp58 compR58 nt58 (by simp) fun ds ⟨w, r, l, t, g, c, to, a, b, f, z, fin, hd⟩ hA => ?_
  subst hd
  by_cases h1 : l < to
  · simp only [ir58,rs58,gl,F58,endE,h1,qda,qc6,qaj,List.length_cons,List.length_nil,Nat.reduceAdd,Nat.le_refl,Nat.reduceLeDiff,Nat.reduceLT,true_and,and_true,↓qax,↓qay,↓qa0,↓qaz,↓qcs,↓qbj,↓qa1,↓qcl,↓qb3,↓qci,↓qcb,↓qce,↓qcf,↓qb4,↓qcd,↓qcj,↓qb5,↓qcg,↓qch,↓qb6,↓qcc,↓qca,↓qb9,↓qb8,↓qb7,↓qa5,↓qbc,↓qa6,↓qbd,↓qa7,↓qbe,↓qa8,↓qbf,↓qa9,↓qbg,↓qba,↓qbh,↓qbb,↓qbi,↓qb2,↓qck,↓qfa,↓qco,↓qcp,↓qcq,↓qcn,↓qcm,↓qbm,↓qbn,↓qb0,↓qbv,↓qbq,↓qbu,↓qbz,↓qbw,↓qby,↓qbx,↓qbr,↓qbp,↓qb1,↓qbs,↓qbt,↓qbo,↓qex,↓qew,↓qe1,↓qe3,↓qe2,↓qev,↓qeu,↓qer,↓qes,↓qe0,↓qez,↓qey,qc5,↓qeo,↓qep,↓qet,↓qc4,↓qc2,↓qc3,↓qe5,↓qe6,↓qe7,↓qe4,qaa,↓qeq,↓qed,↓qee,↓qe9,↓qe8,↓qeg,↓qdj,↓qdr,↓qd8,↓qd9,↓qel,↓qem,↓qdn,↓qdo,↓qdq,↓qdp,↓qdw,↓qen,↓qdu,↓qeh,↓qdm,↓qeb,↓qei,↓qej,↓qek,↓qd0,↓qdz,↓qd1,↓qd2,↓qd4,↓qdy,↓qd5,↓qd7,↓qd6,↓qdk,↓qdl,↓qdx,↓qaw,↓qdv,↓qec,↓qef,↓qea,↓qd3,qav,List.drop_zero,Nat.sub_zero,qcy,qct,qcu,qdh,qat,qas,qaf,List.map_cons,List.map_nil,List.zip_cons_cons,List.zip_nil_right,List.zip_nil_left,qau,evs,evp,mkB,repB,blen,qae,qad,qac,qab,qc1,qc0,qdg,qdi,qde,qdf,qcx,qcz,qcv,qcw,↓qdc,↓qdb,↓qdd,↓qah,↓qag,↓qai,↓retQ,res,resAll,resOne,kill,apartOk,exp,injV,injB,pur,purs,purR,pursR,List.set_cons_zero,List.set_cons_succ,List.length_cons,List.length_nil,List.cons_append,List.nil_append,List.append_nil,List.append_assoc,List.length_append,List.reduceReplicate,Nat.reduceAdd,Nat.reduceMul,Nat.reduceSub,Nat.reduceEqDiff,Nat.reduceLT,Nat.zero_add,Nat.add_zero,Nat.mul_one,Int.reduceToNat,Int.toNat_natCast,Int.cast_ofNat_Int,Int.reduceLE,Int.reduceLT,Int.reduceEq,reduceCtorEq,↓reduceIte,Bool.true_eq_false,Bool.false_eq_true,Bool.not_true,Bool.not_false,true_and,and_true,and_assoc,qaj,sub1,qc8,qc7,qc9,List.length_replicate,Nat.le_refl,false_implies,true_implies,ne_eq,not_true_eq_false,not_false_eq_true,decide_true,decide_false,decide_eq_true_eq,decide_eq_false_iff_not,Bool.not_eq_true',Bool.not_eq_false']
    exact out_int rfl
  cases f <;> cases fin
  all_goals
    simp only [ir58,rs58,gl,F58,endE,h1,Bool.true_and,Bool.false_and,Bool.or_true,Bool.or_false,Bool.true_or,Bool.false_or,Bool.or_eq_true,qda,qc6,qaj,List.length_cons,List.length_nil,Nat.reduceAdd,Nat.le_refl,Nat.reduceLeDiff,Nat.reduceLT,true_and,and_true,↓qax,↓qay,↓qa0,↓qaz,↓qcs,↓qbj,↓qa1,↓qcl,↓qb3,↓qci,↓qcb,↓qce,↓qcf,↓qb4,↓qcd,↓qcj,↓qb5,↓qcg,↓qch,↓qb6,↓qcc,↓qca,↓qb9,↓qb8,↓qb7,↓qa5,↓qbc,↓qa6,↓qbd,↓qa7,↓qbe,↓qa8,↓qbf,↓qa9,↓qbg,↓qba,↓qbh,↓qbb,↓qbi,↓qb2,↓qck,↓qfa,↓qco,↓qcp,↓qcq,↓qcn,↓qcm,↓qbm,↓qbn,↓qb0,↓qbv,↓qbq,↓qbu,↓qbz,↓qbw,↓qby,↓qbx,↓qbr,↓qbp,↓qb1,↓qbs,↓qbt,↓qbo,↓qex,↓qew,↓qe1,↓qe3,↓qe2,↓qev,↓qeu,↓qer,↓qes,↓qe0,↓qez,↓qey,qc5,↓qeo,↓qep,↓qet,↓qc4,↓qc2,↓qc3,↓qe5,↓qe6,↓qe7,↓qe4,qaa,↓qeq,↓qed,↓qee,↓qe9,↓qe8,↓qeg,↓qdj,↓qdr,↓qd8,↓qd9,↓qel,↓qem,↓qdn,↓qdo,↓qdq,↓qdp,↓qdw,↓qen,↓qdu,↓qeh,↓qdm,↓qeb,↓qei,↓qej,↓qek,↓qd0,↓qdz,↓qd1,↓qd2,↓qd4,↓qdy,↓qd5,↓qd7,↓qd6,↓qdk,↓qdl,↓qdx,↓qaw,↓qdv,↓qec,↓qef,↓qea,↓qd3,qav,List.drop_zero,Nat.sub_zero,qcy,qct,qcu,qdh,qat,qas,qaf,List.map_cons,List.map_nil,List.zip_cons_cons,List.zip_nil_right,List.zip_nil_left,qau,evs,evp,mkB,repB,blen,qae,qad,qac,qab,qc1,qc0,qdg,qdi,qde,qdf,qcx,qcz,qcv,qcw,↓qdc,↓qdb,↓qdd,↓qah,↓qag,↓qai,↓retQ,res,resAll,resOne,kill,apartOk,exp,injV,injB,pur,purs,purR,pursR,List.set_cons_zero,List.set_cons_succ,List.length_cons,List.length_nil,List.cons_append,List.nil_append,List.append_nil,List.append_assoc,List.length_append,List.reduceReplicate,Nat.reduceAdd,Nat.reduceMul,Nat.reduceSub,Nat.reduceEqDiff,Nat.reduceLT,Nat.zero_add,Nat.add_zero,Nat.mul_one,Int.reduceToNat,Int.toNat_natCast,Int.cast_ofNat_Int,Int.reduceLE,Int.reduceLT,Int.reduceEq,reduceCtorEq,↓reduceIte,Bool.true_eq_false,Bool.false_eq_true,Bool.not_true,Bool.not_false,true_and,and_true,and_assoc,qaj,sub1,qc8,qc7,qc9,List.length_replicate,Nat.le_refl,false_implies,true_implies,ne_eq,not_true_eq_false,not_false_eq_true,decide_true,decide_false,decide_eq_true_eq,decide_eq_false_iff_not,Bool.not_eq_true',Bool.not_eq_false']
  · exact out_int rfl
  · refine ⟨fun h => out_int ?_, fun h => out_int ?_⟩ <;> simp only [h, if_true, if_false]
  · refine ⟨fun h => out_int ?_, fun h => out_int ?_⟩ <;> simp only [h, if_true, if_false]
  · refine ⟨fun h => out_int ?_, fun h => ⟨fun h2 => out_int ?_, fun h2 => ⟨fun h3 => out_int ?_, fun h3 => out_int ?_⟩⟩⟩ <;> first | (rw [if_pos (by omega)]; done) | (rw [if_neg (by omega)]; done)
end Am
