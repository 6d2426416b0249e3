/-
Working texts: contracts of functions, and the numbers behind them.
-/
import Derived.Test.YtcefobjfkmfmiaaDoorBase
set_option linter.unusedSimpArgs false
set_option linter.unusedVariables false
set_option linter.unusedSectionVars false
set_option maxRecDepth 20000
namespace Am
open Go.Proofs
/-- Parts of bytes, one behind the other. -/
def flat:List V→List Int
  | []=>[]
  | .rsl _ _ _ xs::r=>xs++flat r
  | _::r=>flat r
def Part (v:V):Prop:=v=.nils∨∃xs,v=.rsl 1 xs.length .u8 xs∧Dig 256 xs
theorem flat_snoc_nil:∀(l:List V),flat (l++[.nils])=flat l
  | []=>rfl
  | v::r=>by
    rw[List.cons_append]
    cases v<;>simp only[flat,flat_snoc_nil r]
theorem flat_snoc_rsl (sz n:Nat) (k:Go.IntKind) (xs:List Int):∀(l:List V),flat (l++[.rsl sz n k xs])=flat l++xs
  | []=>by simp[flat]
  | v::r=>by
    rw[List.cons_append]
    cases v<;>simp only[flat,flat_snoc_rsl sz n k xs r,List.append_assoc]
theorem flat_take_le:∀(l:List V) (i:Nat),(flat (l.take i)).length≤(flat l).length
  | [],i=>by simp
  | v::r,0=>by simp[flat]
  | v::r,i+1=>by
    have:=flat_take_le r i
    cases v<;>simp only[List.take_succ_cons,flat,List.length_append]<;>omega
theorem flat_dig:∀{l:List V},(∀v∈l,Part v)→Dig 256 (flat l)
  | [],_=>fun x hx=>by simp[flat]at hx
  | v::r,h=>by
    have ih:=flat_dig (l:=r) fun v hv=>h v (List.mem_cons_of_mem _ hv)
    rcases h v (by simp)with rfl | ⟨xs,rfl,hx⟩
    · exact ih
    · exact hx.append ih
theorem nth_mem:∀{l:List V} {i:Nat},i<l.length→nth l i∈l∧l.take (i+1)=l.take i++[nth l i]
  | v::r,0,_=>⟨by simp[nth],by simp[nth]⟩
  | v::r,i+1,h=>by
    have ih:=nth_mem (l:=r) (i:=i) (by simpa using h)
    exact⟨List.mem_cons_of_mem _ ih.1,by simp only[List.take_succ_cons,nth,List.cons_append,ih.2]⟩
def preParts (ds:List D):Prop:=∃vs:List V,ds=[.v (.rcs 1 vs.length vs)]∧(∀v∈vs,Part v)∧(flat vs).length≤1099511627776∧vs.length<1099511627776
def F62:List D→Out
  | [.v (.rcs _ _ vs)]=>.one (.s .u8 (flat vs))
  | _=>bad
def s62:Summ:=sData [.r] preParts F62
def bOf:Option (List Int)→V
  | none=>.nils
  | some xs=>.slice 4 0 1 xs.length xs.length
def mOf:Option (List Int)→List Blk
  | none=>[]
  | some xs=>[.ints false .u8 xs]
theorem ok62 {g:List Blk} [Ge gl g]:SumOK Tryd.prog g 62 s62∧SumAbs s62:=by
  refine fsumG (l:=[]) mixed gl_plain rfl Tryd.func62 comp62 compR62 nt62 (by simp) fun ds ⟨vs,hd,hvs,hl,hn⟩ hA=>?_
  subst hd
  simp only[ir62,rs62,gl,F62,↓qav,↓qaw,↓qay,↓qax,↓qcw,↓qbh,↓qaz,↓qcp,↓qb1,↓qcm,↓qb9,↓qci,↓qcj,↓qb2,↓qch,↓qcn,↓qb3,↓qck,↓qcl,↓qb4,↓qca,↓qb8,↓qb7,↓qb6,↓qb5,↓qa3,↓qba,↓qa4,↓qbb,↓qa5,↓qbc,↓qa6,↓qbd,↓qa7,↓qbe,↓qa8,↓qbf,↓qa9,↓qbg,↓qb0,↓qco,↓qcv,↓qcs,↓qct,↓qcu,↓qcr,↓qcq,↓qbk,↓qbl,↓qby,↓qbt,↓qbo,↓qbs,↓qbx,↓qbu,↓qbw,↓qbv,↓qbp,↓qbn,↓qbz,↓qbq,↓qbr,↓qbm,↓qa0,↓qa1,↓qa2,↓qbi,↓qbj,↓qe5,↓qe4,↓qe1,↓qe2,↓qex,↓qe8,↓qe7,↓qe6,qda,↓qey,↓qez,↓qe3,↓qc7,↓qc5,↓qc6,↓qfa,↓qfb,↓qfc,↓qe9,qaa,↓qe0,↓qek,↓qel,↓qfe,↓qfd,↓qeo,↓qdn,↓qdv,↓qdx,↓qdw,↓qec,↓qed,↓qeu,↓qev,↓qdr,↓qds,↓qdu,↓qdt,↓qd0,↓qew,↓qdy,↓qeq,↓qdq,↓qei,↓qer,↓qes,↓qet,↓qd4,↓qd3,↓qd5,↓qd6,↓qd8,↓qd2,↓qd9,↓qeb,↓qea,↓qdo,↓qdp,↓qd1,↓qau,↓qdz,↓qej,↓qef,↓qdm,↓qem,↓qeg,↓qep,↓qeh,↓qen,↓qcb,↓qcc,↓qcd,↓qce,↓qcf,↓qcg,qc8,qc9,qcx,qcy,↓qee,↓qd7,qat,qas,evs,evp,mkB,repB,fill,blen,qae,qad,qac,qab,qc4,qc3,qdk,qdl,qdi,qdj,qc1,qc2,qcz,qc0,↓qdg,↓qdf,↓qdh,↓qag,↓qaf,↓qah,↓retQ,res,resAll,resOne,kill,apartOk,exp,injV,injB,pur,purs,purR,pursR,List.set_cons_zero,List.set_cons_succ,List.length_cons,List.length_nil,List.cons_append,List.nil_append,List.append_nil,List.append_assoc,List.length_append,List.reduceReplicate,Nat.reduceAdd,Nat.reduceMul,Nat.reduceSub,Nat.reduceEqDiff,Nat.reduceLT,Nat.zero_add,Nat.add_zero,Nat.mul_one,Int.reduceToNat,Int.toNat_natCast,Int.cast_ofNat_Int,Int.reduceLE,Int.reduceLT,Int.reduceEq,reduceCtorEq,↓reduceIte,Bool.true_eq_false,Bool.false_eq_true,Bool.not_true,Bool.not_false,true_and,and_true,and_assoc,qai,sub1,qdd,qdc,qde,List.length_replicate,Nat.le_refl,forall_const,false_implies,true_implies,ne_eq,not_true_eq_false,not_false_eq_true,decide_true,decide_false,decide_eq_true_eq,decide_eq_false_iff_not,Bool.not_eq_true',Bool.not_eq_false',implies_true]
  refine awp_loopG hA (fun x:Nat×Option (List Int)=>⟨[.undef,.undef,.undef,bOf x.2,.undef,.undef,.rcs 1 vs.length vs,.int .i64 vs.length,.int .i64 x.1]++List.replicate 8 .undef,[.ints true .u64 roots,.dead,.dead,.dead]++mOf x.2⟩)
    (fun x=>x.1≤vs.length∧flat (vs.take x.1)=x.2.getD []) (fun x=>vs.length-x.1) (0,none) ?_ (by simp[flat]) ?_
  · refine .inl ?_
    simp only[bOf,mOf,↓qav,↓qaw,↓qay,↓qax,↓qcw,↓qbh,↓qaz,↓qcp,↓qb1,↓qcm,↓qb9,↓qci,↓qcj,↓qb2,↓qch,↓qcn,↓qb3,↓qck,↓qcl,↓qb4,↓qca,↓qb8,↓qb7,↓qb6,↓qb5,↓qa3,↓qba,↓qa4,↓qbb,↓qa5,↓qbc,↓qa6,↓qbd,↓qa7,↓qbe,↓qa8,↓qbf,↓qa9,↓qbg,↓qb0,↓qco,↓qcv,↓qcs,↓qct,↓qcu,↓qcr,↓qcq,↓qbk,↓qbl,↓qby,↓qbt,↓qbo,↓qbs,↓qbx,↓qbu,↓qbw,↓qbv,↓qbp,↓qbn,↓qbz,↓qbq,↓qbr,↓qbm,↓qa0,↓qa1,↓qa2,↓qbi,↓qbj,↓qe5,↓qe4,↓qe1,↓qe2,↓qex,↓qe8,↓qe7,↓qe6,qda,↓qey,↓qez,↓qe3,↓qc7,↓qc5,↓qc6,↓qfa,↓qfb,↓qfc,↓qe9,qaa,↓qe0,↓qek,↓qel,↓qfe,↓qfd,↓qeo,↓qdn,↓qdv,↓qdx,↓qdw,↓qec,↓qed,↓qeu,↓qev,↓qdr,↓qds,↓qdu,↓qdt,↓qd0,↓qew,↓qdy,↓qeq,↓qdq,↓qei,↓qer,↓qes,↓qet,↓qd4,↓qd3,↓qd5,↓qd6,↓qd8,↓qd2,↓qd9,↓qeb,↓qea,↓qdo,↓qdp,↓qd1,↓qau,↓qdz,↓qej,↓qef,↓qdm,↓qem,↓qeg,↓qep,↓qeh,↓qen,↓qcb,↓qcc,↓qcd,↓qce,↓qcf,↓qcg,qc8,qc9,qcx,qcy,↓qee,↓qd7,qat,qas,evs,evp,mkB,repB,fill,blen,qae,qad,qac,qab,qc4,qc3,qdk,qdl,qdi,qdj,qc1,qc2,qcz,qc0,↓qdg,↓qdf,↓qdh,↓qag,↓qaf,↓qah,↓retQ,res,resAll,resOne,kill,apartOk,exp,injV,injB,pur,purs,purR,pursR,List.set_cons_zero,List.set_cons_succ,List.length_cons,List.length_nil,List.cons_append,List.nil_append,List.append_nil,List.append_assoc,List.length_append,List.reduceReplicate,Nat.reduceAdd,Nat.reduceMul,Nat.reduceSub,Nat.reduceEqDiff,Nat.reduceLT,Nat.zero_add,Nat.add_zero,Nat.mul_one,Int.reduceToNat,Int.toNat_natCast,Int.cast_ofNat_Int,Int.reduceLE,Int.reduceLT,Int.reduceEq,reduceCtorEq,↓reduceIte,Bool.true_eq_false,Bool.false_eq_true,Bool.not_true,Bool.not_false,true_and,and_true,and_assoc,qai,sub1,qdd,qdc,qde,List.length_replicate,Nat.le_refl,forall_const,false_implies,true_implies,ne_eq,not_true_eq_false,not_false_eq_true,decide_true,decide_false,decide_eq_true_eq,decide_eq_false_iff_not,Bool.not_eq_true',Bool.not_eq_false',implies_true]
  intro ⟨i,o⟩ ⟨hi,ho⟩ K hK
  simp only at hi ho hK
  have hw:Go.IntKind.i64.wrap ((i:Int)+1)=((i+1:Nat):Int):=by rw[wrap_i64];omega
  by_cases hlt:i<vs.length
  · obtain⟨h1,h2⟩:=nth_mem hlt
    have hf:(flat (vs.take (i+1))).length≤(flat vs).length:=flat_take_le _ _
    rw[h2]at hf
    have hc:((i:Int)<vs.length):=by omega
    cases o with
    | none =>
      rcases hvs _ h1 with hv | ⟨xs,hv,hx⟩
      · simp only[hc,hv,hw,bOf,mOf,↓qav,↓qaw,↓qay,↓qax,↓qcw,↓qbh,↓qaz,↓qcp,↓qb1,↓qcm,↓qb9,↓qci,↓qcj,↓qb2,↓qch,↓qcn,↓qb3,↓qck,↓qcl,↓qb4,↓qca,↓qb8,↓qb7,↓qb6,↓qb5,↓qa3,↓qba,↓qa4,↓qbb,↓qa5,↓qbc,↓qa6,↓qbd,↓qa7,↓qbe,↓qa8,↓qbf,↓qa9,↓qbg,↓qb0,↓qco,↓qcv,↓qcs,↓qct,↓qcu,↓qcr,↓qcq,↓qbk,↓qbl,↓qby,↓qbt,↓qbo,↓qbs,↓qbx,↓qbu,↓qbw,↓qbv,↓qbp,↓qbn,↓qbz,↓qbq,↓qbr,↓qbm,↓qa0,↓qa1,↓qa2,↓qbi,↓qbj,↓qe5,↓qe4,↓qe1,↓qe2,↓qex,↓qe8,↓qe7,↓qe6,qda,↓qey,↓qez,↓qe3,↓qc7,↓qc5,↓qc6,↓qfa,↓qfb,↓qfc,↓qe9,qaa,↓qe0,↓qek,↓qel,↓qfe,↓qfd,↓qeo,↓qdn,↓qdv,↓qdx,↓qdw,↓qec,↓qed,↓qeu,↓qev,↓qdr,↓qds,↓qdu,↓qdt,↓qd0,↓qew,↓qdy,↓qeq,↓qdq,↓qei,↓qer,↓qes,↓qet,↓qd4,↓qd3,↓qd5,↓qd6,↓qd8,↓qd2,↓qd9,↓qeb,↓qea,↓qdo,↓qdp,↓qd1,↓qau,↓qdz,↓qej,↓qef,↓qdm,↓qem,↓qeg,↓qep,↓qeh,↓qen,↓qcb,↓qcc,↓qcd,↓qce,↓qcf,↓qcg,qc8,qc9,qcx,qcy,↓qee,↓qd7,qat,qas,evs,evp,mkB,repB,fill,blen,qae,qad,qac,qab,qc4,qc3,qdk,qdl,qdi,qdj,qc1,qc2,qcz,qc0,↓qdg,↓qdf,↓qdh,↓qag,↓qaf,↓qah,↓retQ,res,resAll,resOne,kill,apartOk,exp,injV,injB,pur,purs,purR,pursR,List.set_cons_zero,List.set_cons_succ,List.length_cons,List.length_nil,List.cons_append,List.nil_append,List.append_nil,List.append_assoc,List.length_append,List.reduceReplicate,Nat.reduceAdd,Nat.reduceMul,Nat.reduceSub,Nat.reduceEqDiff,Nat.reduceLT,Nat.zero_add,Nat.add_zero,Nat.mul_one,Int.reduceToNat,Int.toNat_natCast,Int.cast_ofNat_Int,Int.reduceLE,Int.reduceLT,Int.reduceEq,reduceCtorEq,↓reduceIte,Bool.true_eq_false,Bool.false_eq_true,Bool.not_true,Bool.not_false,true_and,and_true,and_assoc,qai,sub1,qdd,qdc,qde,List.length_replicate,Nat.le_refl,forall_const,false_implies,true_implies,ne_eq,not_true_eq_false,not_false_eq_true,decide_true,decide_false,decide_eq_true_eq,decide_eq_false_iff_not,Bool.not_eq_true',Bool.not_eq_false',implies_true]
        refine⟨by omega,hlt,by omega,(i+1,none),hK _ ⟨by simp only;omega,?_⟩ (by simp only;omega),.inl rfl⟩
        simp only[h2,hv,flat_snoc_nil,ho]
      · simp only[hc,hv,hw,bOf,mOf,↓qav,↓qaw,↓qay,↓qax,↓qcw,↓qbh,↓qaz,↓qcp,↓qb1,↓qcm,↓qb9,↓qci,↓qcj,↓qb2,↓qch,↓qcn,↓qb3,↓qck,↓qcl,↓qb4,↓qca,↓qb8,↓qb7,↓qb6,↓qb5,↓qa3,↓qba,↓qa4,↓qbb,↓qa5,↓qbc,↓qa6,↓qbd,↓qa7,↓qbe,↓qa8,↓qbf,↓qa9,↓qbg,↓qb0,↓qco,↓qcv,↓qcs,↓qct,↓qcu,↓qcr,↓qcq,↓qbk,↓qbl,↓qby,↓qbt,↓qbo,↓qbs,↓qbx,↓qbu,↓qbw,↓qbv,↓qbp,↓qbn,↓qbz,↓qbq,↓qbr,↓qbm,↓qa0,↓qa1,↓qa2,↓qbi,↓qbj,↓qe5,↓qe4,↓qe1,↓qe2,↓qex,↓qe8,↓qe7,↓qe6,qda,↓qey,↓qez,↓qe3,↓qc7,↓qc5,↓qc6,↓qfa,↓qfb,↓qfc,↓qe9,qaa,↓qe0,↓qek,↓qel,↓qfe,↓qfd,↓qeo,↓qdn,↓qdv,↓qdx,↓qdw,↓qec,↓qed,↓qeu,↓qev,↓qdr,↓qds,↓qdu,↓qdt,↓qd0,↓qew,↓qdy,↓qeq,↓qdq,↓qei,↓qer,↓qes,↓qet,↓qd4,↓qd3,↓qd5,↓qd6,↓qd8,↓qd2,↓qd9,↓qeb,↓qea,↓qdo,↓qdp,↓qd1,↓qau,↓qdz,↓qej,↓qef,↓qdm,↓qem,↓qeg,↓qep,↓qeh,↓qen,↓qcb,↓qcc,↓qcd,↓qce,↓qcf,↓qcg,qc8,qc9,qcx,qcy,↓qee,↓qd7,qat,qas,evs,evp,mkB,repB,fill,blen,qae,qad,qac,qab,qc4,qc3,qdk,qdl,qdi,qdj,qc1,qc2,qcz,qc0,↓qdg,↓qdf,↓qdh,↓qag,↓qaf,↓qah,↓retQ,res,resAll,resOne,kill,apartOk,exp,injV,injB,pur,purs,purR,pursR,List.set_cons_zero,List.set_cons_succ,List.length_cons,List.length_nil,List.cons_append,List.nil_append,List.append_nil,List.append_assoc,List.length_append,List.reduceReplicate,Nat.reduceAdd,Nat.reduceMul,Nat.reduceSub,Nat.reduceEqDiff,Nat.reduceLT,Nat.zero_add,Nat.add_zero,Nat.mul_one,Int.reduceToNat,Int.toNat_natCast,Int.cast_ofNat_Int,Int.reduceLE,Int.reduceLT,Int.reduceEq,reduceCtorEq,↓reduceIte,Bool.true_eq_false,Bool.false_eq_true,Bool.not_true,Bool.not_false,true_and,and_true,and_assoc,qai,sub1,qdd,qdc,qde,List.length_replicate,Nat.le_refl,forall_const,false_implies,true_implies,ne_eq,not_true_eq_false,not_false_eq_true,decide_true,decide_false,decide_eq_true_eq,decide_eq_false_iff_not,Bool.not_eq_true',Bool.not_eq_false',implies_true]
        rw[hv,flat_snoc_rsl,List.length_append]at hf
        refine⟨by omega,hlt,by omega,(i+1,some xs),hK _ ⟨by simp only;omega,?_⟩ (by simp only;omega),.inl rfl⟩
        simp only[h2,hv,flat_snoc_rsl,ho,Option.getD_none,Option.getD_some,List.nil_append]
    | some ys =>
      rcases hvs _ h1 with hv | ⟨xs,hv,hx⟩
      · simp only[hc,hv,hw,bOf,mOf,↓qav,↓qaw,↓qay,↓qax,↓qcw,↓qbh,↓qaz,↓qcp,↓qb1,↓qcm,↓qb9,↓qci,↓qcj,↓qb2,↓qch,↓qcn,↓qb3,↓qck,↓qcl,↓qb4,↓qca,↓qb8,↓qb7,↓qb6,↓qb5,↓qa3,↓qba,↓qa4,↓qbb,↓qa5,↓qbc,↓qa6,↓qbd,↓qa7,↓qbe,↓qa8,↓qbf,↓qa9,↓qbg,↓qb0,↓qco,↓qcv,↓qcs,↓qct,↓qcu,↓qcr,↓qcq,↓qbk,↓qbl,↓qby,↓qbt,↓qbo,↓qbs,↓qbx,↓qbu,↓qbw,↓qbv,↓qbp,↓qbn,↓qbz,↓qbq,↓qbr,↓qbm,↓qa0,↓qa1,↓qa2,↓qbi,↓qbj,↓qe5,↓qe4,↓qe1,↓qe2,↓qex,↓qe8,↓qe7,↓qe6,qda,↓qey,↓qez,↓qe3,↓qc7,↓qc5,↓qc6,↓qfa,↓qfb,↓qfc,↓qe9,qaa,↓qe0,↓qek,↓qel,↓qfe,↓qfd,↓qeo,↓qdn,↓qdv,↓qdx,↓qdw,↓qec,↓qed,↓qeu,↓qev,↓qdr,↓qds,↓qdu,↓qdt,↓qd0,↓qew,↓qdy,↓qeq,↓qdq,↓qei,↓qer,↓qes,↓qet,↓qd4,↓qd3,↓qd5,↓qd6,↓qd8,↓qd2,↓qd9,↓qeb,↓qea,↓qdo,↓qdp,↓qd1,↓qau,↓qdz,↓qej,↓qef,↓qdm,↓qem,↓qeg,↓qep,↓qeh,↓qen,↓qcb,↓qcc,↓qcd,↓qce,↓qcf,↓qcg,qc8,qc9,qcx,qcy,↓qee,↓qd7,qat,qas,evs,evp,mkB,repB,fill,blen,qae,qad,qac,qab,qc4,qc3,qdk,qdl,qdi,qdj,qc1,qc2,qcz,qc0,↓qdg,↓qdf,↓qdh,↓qag,↓qaf,↓qah,↓retQ,res,resAll,resOne,kill,apartOk,exp,injV,injB,pur,purs,purR,pursR,List.set_cons_zero,List.set_cons_succ,List.length_cons,List.length_nil,List.cons_append,List.nil_append,List.append_nil,List.append_assoc,List.length_append,List.reduceReplicate,Nat.reduceAdd,Nat.reduceMul,Nat.reduceSub,Nat.reduceEqDiff,Nat.reduceLT,Nat.zero_add,Nat.add_zero,Nat.mul_one,Int.reduceToNat,Int.toNat_natCast,Int.cast_ofNat_Int,Int.reduceLE,Int.reduceLT,Int.reduceEq,reduceCtorEq,↓reduceIte,Bool.true_eq_false,Bool.false_eq_true,Bool.not_true,Bool.not_false,true_and,and_true,and_assoc,qai,sub1,qdd,qdc,qde,List.length_replicate,Nat.le_refl,forall_const,false_implies,true_implies,ne_eq,not_true_eq_false,not_false_eq_true,decide_true,decide_false,decide_eq_true_eq,decide_eq_false_iff_not,Bool.not_eq_true',Bool.not_eq_false',implies_true]
        rw[hv,flat_snoc_nil,ho,Option.getD_some]at hf
        refine⟨by omega,hlt,by omega,(i+1,some ys),hK _ ⟨by simp only;omega,?_⟩ (by simp only;omega),Weak.of [0,1,2,3,5] (by decide) (by decide) (by simp) ?_⟩
        · simp only[h2,hv,flat_snoc_nil,ho]
        · simp only[gc,gcVs,gcV,posOf,gcH,gcB,Option.map_some,Option.map_none,List.replicate_zero,List.drop_zero,↓qav,↓qaw,↓qay,↓qax,↓qcw,↓qbh,↓qaz,↓qcp,↓qb1,↓qcm,↓qb9,↓qci,↓qcj,↓qb2,↓qch,↓qcn,↓qb3,↓qck,↓qcl,↓qb4,↓qca,↓qb8,↓qb7,↓qb6,↓qb5,↓qa3,↓qba,↓qa4,↓qbb,↓qa5,↓qbc,↓qa6,↓qbd,↓qa7,↓qbe,↓qa8,↓qbf,↓qa9,↓qbg,↓qb0,↓qco,↓qcv,↓qcs,↓qct,↓qcu,↓qcr,↓qcq,↓qbk,↓qbl,↓qby,↓qbt,↓qbo,↓qbs,↓qbx,↓qbu,↓qbw,↓qbv,↓qbp,↓qbn,↓qbz,↓qbq,↓qbr,↓qbm,↓qa0,↓qa1,↓qa2,↓qbi,↓qbj,↓qe5,↓qe4,↓qe1,↓qe2,↓qex,↓qe8,↓qe7,↓qe6,qda,↓qey,↓qez,↓qe3,↓qc7,↓qc5,↓qc6,↓qfa,↓qfb,↓qfc,↓qe9,qaa,↓qe0,↓qek,↓qel,↓qfe,↓qfd,↓qeo,↓qdn,↓qdv,↓qdx,↓qdw,↓qec,↓qed,↓qeu,↓qev,↓qdr,↓qds,↓qdu,↓qdt,↓qd0,↓qew,↓qdy,↓qeq,↓qdq,↓qei,↓qer,↓qes,↓qet,↓qd4,↓qd3,↓qd5,↓qd6,↓qd8,↓qd2,↓qd9,↓qeb,↓qea,↓qdo,↓qdp,↓qd1,↓qau,↓qdz,↓qej,↓qef,↓qdm,↓qem,↓qeg,↓qep,↓qeh,↓qen,↓qcb,↓qcc,↓qcd,↓qce,↓qcf,↓qcg,qc8,qc9,qcx,qcy,↓qee,↓qd7,qat,qas,evs,evp,mkB,repB,fill,blen,qae,qad,qac,qab,qc4,qc3,qdk,qdl,qdi,qdj,qc1,qc2,qcz,qc0,↓qdg,↓qdf,↓qdh,↓qag,↓qaf,↓qah,↓retQ,res,resAll,resOne,kill,apartOk,exp,injV,injB,pur,purs,purR,pursR,List.set_cons_zero,List.set_cons_succ,List.length_cons,List.length_nil,List.cons_append,List.nil_append,List.append_nil,List.append_assoc,List.length_append,List.reduceReplicate,Nat.reduceAdd,Nat.reduceMul,Nat.reduceSub,Nat.reduceEqDiff,Nat.reduceLT,Nat.zero_add,Nat.add_zero,Nat.mul_one,Int.reduceToNat,Int.toNat_natCast,Int.cast_ofNat_Int,Int.reduceLE,Int.reduceLT,Int.reduceEq,reduceCtorEq,↓reduceIte,Bool.true_eq_false,Bool.false_eq_true,Bool.not_true,Bool.not_false,true_and,and_true,and_assoc,qai,sub1,qdd,qdc,qde,List.length_replicate,Nat.le_refl,forall_const,false_implies,true_implies,ne_eq,not_true_eq_false,not_false_eq_true,decide_true,decide_false,decide_eq_true_eq,decide_eq_false_iff_not,Bool.not_eq_true',Bool.not_eq_false',implies_true]
      · simp only[hc,hv,hw,bOf,mOf,↓qav,↓qaw,↓qay,↓qax,↓qcw,↓qbh,↓qaz,↓qcp,↓qb1,↓qcm,↓qb9,↓qci,↓qcj,↓qb2,↓qch,↓qcn,↓qb3,↓qck,↓qcl,↓qb4,↓qca,↓qb8,↓qb7,↓qb6,↓qb5,↓qa3,↓qba,↓qa4,↓qbb,↓qa5,↓qbc,↓qa6,↓qbd,↓qa7,↓qbe,↓qa8,↓qbf,↓qa9,↓qbg,↓qb0,↓qco,↓qcv,↓qcs,↓qct,↓qcu,↓qcr,↓qcq,↓qbk,↓qbl,↓qby,↓qbt,↓qbo,↓qbs,↓qbx,↓qbu,↓qbw,↓qbv,↓qbp,↓qbn,↓qbz,↓qbq,↓qbr,↓qbm,↓qa0,↓qa1,↓qa2,↓qbi,↓qbj,↓qe5,↓qe4,↓qe1,↓qe2,↓qex,↓qe8,↓qe7,↓qe6,qda,↓qey,↓qez,↓qe3,↓qc7,↓qc5,↓qc6,↓qfa,↓qfb,↓qfc,↓qe9,qaa,↓qe0,↓qek,↓qel,↓qfe,↓qfd,↓qeo,↓qdn,↓qdv,↓qdx,↓qdw,↓qec,↓qed,↓qeu,↓qev,↓qdr,↓qds,↓qdu,↓qdt,↓qd0,↓qew,↓qdy,↓qeq,↓qdq,↓qei,↓qer,↓qes,↓qet,↓qd4,↓qd3,↓qd5,↓qd6,↓qd8,↓qd2,↓qd9,↓qeb,↓qea,↓qdo,↓qdp,↓qd1,↓qau,↓qdz,↓qej,↓qef,↓qdm,↓qem,↓qeg,↓qep,↓qeh,↓qen,↓qcb,↓qcc,↓qcd,↓qce,↓qcf,↓qcg,qc8,qc9,qcx,qcy,↓qee,↓qd7,qat,qas,evs,evp,mkB,repB,fill,blen,qae,qad,qac,qab,qc4,qc3,qdk,qdl,qdi,qdj,qc1,qc2,qcz,qc0,↓qdg,↓qdf,↓qdh,↓qag,↓qaf,↓qah,↓retQ,res,resAll,resOne,kill,apartOk,exp,injV,injB,pur,purs,purR,pursR,List.set_cons_zero,List.set_cons_succ,List.length_cons,List.length_nil,List.cons_append,List.nil_append,List.append_nil,List.append_assoc,List.length_append,List.reduceReplicate,Nat.reduceAdd,Nat.reduceMul,Nat.reduceSub,Nat.reduceEqDiff,Nat.reduceLT,Nat.zero_add,Nat.add_zero,Nat.mul_one,Int.reduceToNat,Int.toNat_natCast,Int.cast_ofNat_Int,Int.reduceLE,Int.reduceLT,Int.reduceEq,reduceCtorEq,↓reduceIte,Bool.true_eq_false,Bool.false_eq_true,Bool.not_true,Bool.not_false,true_and,and_true,and_assoc,qai,sub1,qdd,qdc,qde,List.length_replicate,Nat.le_refl,forall_const,false_implies,true_implies,ne_eq,not_true_eq_false,not_false_eq_true,decide_true,decide_false,decide_eq_true_eq,decide_eq_false_iff_not,Bool.not_eq_true',Bool.not_eq_false',implies_true]
        rw[hv,flat_snoc_rsl,ho,Option.getD_some,List.length_append]at hf
        refine⟨by omega,hlt,by omega,(i+1,some (ys++xs)),hK _ ⟨by simp only;omega,?_⟩ (by simp only;omega),Weak.of [0,1,2,3,5] (by decide) (by decide) (by simp) ?_⟩
        · simp only[h2,hv,flat_snoc_rsl,ho,Option.getD_some]
        · simp only[gc,gcVs,gcV,posOf,gcH,gcB,Option.map_some,Option.map_none,List.replicate_zero,List.drop_zero,↓qav,↓qaw,↓qay,↓qax,↓qcw,↓qbh,↓qaz,↓qcp,↓qb1,↓qcm,↓qb9,↓qci,↓qcj,↓qb2,↓qch,↓qcn,↓qb3,↓qck,↓qcl,↓qb4,↓qca,↓qb8,↓qb7,↓qb6,↓qb5,↓qa3,↓qba,↓qa4,↓qbb,↓qa5,↓qbc,↓qa6,↓qbd,↓qa7,↓qbe,↓qa8,↓qbf,↓qa9,↓qbg,↓qb0,↓qco,↓qcv,↓qcs,↓qct,↓qcu,↓qcr,↓qcq,↓qbk,↓qbl,↓qby,↓qbt,↓qbo,↓qbs,↓qbx,↓qbu,↓qbw,↓qbv,↓qbp,↓qbn,↓qbz,↓qbq,↓qbr,↓qbm,↓qa0,↓qa1,↓qa2,↓qbi,↓qbj,↓qe5,↓qe4,↓qe1,↓qe2,↓qex,↓qe8,↓qe7,↓qe6,qda,↓qey,↓qez,↓qe3,↓qc7,↓qc5,↓qc6,↓qfa,↓qfb,↓qfc,↓qe9,qaa,↓qe0,↓qek,↓qel,↓qfe,↓qfd,↓qeo,↓qdn,↓qdv,↓qdx,↓qdw,↓qec,↓qed,↓qeu,↓qev,↓qdr,↓qds,↓qdu,↓qdt,↓qd0,↓qew,↓qdy,↓qeq,↓qdq,↓qei,↓qer,↓qes,↓qet,↓qd4,↓qd3,↓qd5,↓qd6,↓qd8,↓qd2,↓qd9,↓qeb,↓qea,↓qdo,↓qdp,↓qd1,↓qau,↓qdz,↓qej,↓qef,↓qdm,↓qem,↓qeg,↓qep,↓qeh,↓qen,↓qcb,↓qcc,↓qcd,↓qce,↓qcf,↓qcg,qc8,qc9,qcx,qcy,↓qee,↓qd7,qat,qas,evs,evp,mkB,repB,fill,blen,qae,qad,qac,qab,qc4,qc3,qdk,qdl,qdi,qdj,qc1,qc2,qcz,qc0,↓qdg,↓qdf,↓qdh,↓qag,↓qaf,↓qah,↓retQ,res,resAll,resOne,kill,apartOk,exp,injV,injB,pur,purs,purR,pursR,List.set_cons_zero,List.set_cons_succ,List.length_cons,List.length_nil,List.cons_append,List.nil_append,List.append_nil,List.append_assoc,List.length_append,List.reduceReplicate,Nat.reduceAdd,Nat.reduceMul,Nat.reduceSub,Nat.reduceEqDiff,Nat.reduceLT,Nat.zero_add,Nat.add_zero,Nat.mul_one,Int.reduceToNat,Int.toNat_natCast,Int.cast_ofNat_Int,Int.reduceLE,Int.reduceLT,Int.reduceEq,reduceCtorEq,↓reduceIte,Bool.true_eq_false,Bool.false_eq_true,Bool.not_true,Bool.not_false,true_and,and_true,and_assoc,qai,sub1,qdd,qdc,qde,List.length_replicate,Nat.le_refl,forall_const,false_implies,true_implies,ne_eq,not_true_eq_false,not_false_eq_true,decide_true,decide_false,decide_eq_true_eq,decide_eq_false_iff_not,Bool.not_eq_true',Bool.not_eq_false',implies_true]
  · have hc:¬((i:Int)<vs.length):=by omega
    rw[List.take_of_length_le (by omega)]at ho
    cases o with
    | none =>
      simp only[hc,bOf,mOf,↓qav,↓qaw,↓qay,↓qax,↓qcw,↓qbh,↓qaz,↓qcp,↓qb1,↓qcm,↓qb9,↓qci,↓qcj,↓qb2,↓qch,↓qcn,↓qb3,↓qck,↓qcl,↓qb4,↓qca,↓qb8,↓qb7,↓qb6,↓qb5,↓qa3,↓qba,↓qa4,↓qbb,↓qa5,↓qbc,↓qa6,↓qbd,↓qa7,↓qbe,↓qa8,↓qbf,↓qa9,↓qbg,↓qb0,↓qco,↓qcv,↓qcs,↓qct,↓qcu,↓qcr,↓qcq,↓qbk,↓qbl,↓qby,↓qbt,↓qbo,↓qbs,↓qbx,↓qbu,↓qbw,↓qbv,↓qbp,↓qbn,↓qbz,↓qbq,↓qbr,↓qbm,↓qa0,↓qa1,↓qa2,↓qbi,↓qbj,↓qe5,↓qe4,↓qe1,↓qe2,↓qex,↓qe8,↓qe7,↓qe6,qda,↓qey,↓qez,↓qe3,↓qc7,↓qc5,↓qc6,↓qfa,↓qfb,↓qfc,↓qe9,qaa,↓qe0,↓qek,↓qel,↓qfe,↓qfd,↓qeo,↓qdn,↓qdv,↓qdx,↓qdw,↓qec,↓qed,↓qeu,↓qev,↓qdr,↓qds,↓qdu,↓qdt,↓qd0,↓qew,↓qdy,↓qeq,↓qdq,↓qei,↓qer,↓qes,↓qet,↓qd4,↓qd3,↓qd5,↓qd6,↓qd8,↓qd2,↓qd9,↓qeb,↓qea,↓qdo,↓qdp,↓qd1,↓qau,↓qdz,↓qej,↓qef,↓qdm,↓qem,↓qeg,↓qep,↓qeh,↓qen,↓qcb,↓qcc,↓qcd,↓qce,↓qcf,↓qcg,qc8,qc9,qcx,qcy,↓qee,↓qd7,qat,qas,evs,evp,mkB,repB,fill,blen,qae,qad,qac,qab,qc4,qc3,qdk,qdl,qdi,qdj,qc1,qc2,qcz,qc0,↓qdg,↓qdf,↓qdh,↓qag,↓qaf,↓qah,↓retQ,res,resAll,resOne,kill,apartOk,exp,injV,injB,pur,purs,purR,pursR,List.set_cons_zero,List.set_cons_succ,List.length_cons,List.length_nil,List.cons_append,List.nil_append,List.append_nil,List.append_assoc,List.length_append,List.reduceReplicate,Nat.reduceAdd,Nat.reduceMul,Nat.reduceSub,Nat.reduceEqDiff,Nat.reduceLT,Nat.zero_add,Nat.add_zero,Nat.mul_one,Int.reduceToNat,Int.toNat_natCast,Int.cast_ofNat_Int,Int.reduceLE,Int.reduceLT,Int.reduceEq,reduceCtorEq,↓reduceIte,Bool.true_eq_false,Bool.false_eq_true,Bool.not_true,Bool.not_false,true_and,and_true,and_assoc,qai,sub1,qdd,qdc,qde,List.length_replicate,Nat.le_refl,forall_const,false_implies,true_implies,ne_eq,not_true_eq_false,not_false_eq_true,decide_true,decide_false,decide_eq_true_eq,decide_eq_false_iff_not,Bool.not_eq_true',Bool.not_eq_false',implies_true]
      simp only[out,outs,out1,ho,Option.getD_none,and_true]
    | some ys =>
      simp only[hc,bOf,mOf,↓qav,↓qaw,↓qay,↓qax,↓qcw,↓qbh,↓qaz,↓qcp,↓qb1,↓qcm,↓qb9,↓qci,↓qcj,↓qb2,↓qch,↓qcn,↓qb3,↓qck,↓qcl,↓qb4,↓qca,↓qb8,↓qb7,↓qb6,↓qb5,↓qa3,↓qba,↓qa4,↓qbb,↓qa5,↓qbc,↓qa6,↓qbd,↓qa7,↓qbe,↓qa8,↓qbf,↓qa9,↓qbg,↓qb0,↓qco,↓qcv,↓qcs,↓qct,↓qcu,↓qcr,↓qcq,↓qbk,↓qbl,↓qby,↓qbt,↓qbo,↓qbs,↓qbx,↓qbu,↓qbw,↓qbv,↓qbp,↓qbn,↓qbz,↓qbq,↓qbr,↓qbm,↓qa0,↓qa1,↓qa2,↓qbi,↓qbj,↓qe5,↓qe4,↓qe1,↓qe2,↓qex,↓qe8,↓qe7,↓qe6,qda,↓qey,↓qez,↓qe3,↓qc7,↓qc5,↓qc6,↓qfa,↓qfb,↓qfc,↓qe9,qaa,↓qe0,↓qek,↓qel,↓qfe,↓qfd,↓qeo,↓qdn,↓qdv,↓qdx,↓qdw,↓qec,↓qed,↓qeu,↓qev,↓qdr,↓qds,↓qdu,↓qdt,↓qd0,↓qew,↓qdy,↓qeq,↓qdq,↓qei,↓qer,↓qes,↓qet,↓qd4,↓qd3,↓qd5,↓qd6,↓qd8,↓qd2,↓qd9,↓qeb,↓qea,↓qdo,↓qdp,↓qd1,↓qau,↓qdz,↓qej,↓qef,↓qdm,↓qem,↓qeg,↓qep,↓qeh,↓qen,↓qcb,↓qcc,↓qcd,↓qce,↓qcf,↓qcg,qc8,qc9,qcx,qcy,↓qee,↓qd7,qat,qas,evs,evp,mkB,repB,fill,blen,qae,qad,qac,qab,qc4,qc3,qdk,qdl,qdi,qdj,qc1,qc2,qcz,qc0,↓qdg,↓qdf,↓qdh,↓qag,↓qaf,↓qah,↓retQ,res,resAll,resOne,kill,apartOk,exp,injV,injB,pur,purs,purR,pursR,List.set_cons_zero,List.set_cons_succ,List.length_cons,List.length_nil,List.cons_append,List.nil_append,List.append_nil,List.append_assoc,List.length_append,List.reduceReplicate,Nat.reduceAdd,Nat.reduceMul,Nat.reduceSub,Nat.reduceEqDiff,Nat.reduceLT,Nat.zero_add,Nat.add_zero,Nat.mul_one,Int.reduceToNat,Int.toNat_natCast,Int.cast_ofNat_Int,Int.reduceLE,Int.reduceLT,Int.reduceEq,reduceCtorEq,↓reduceIte,Bool.true_eq_false,Bool.false_eq_true,Bool.not_true,Bool.not_false,true_and,and_true,and_assoc,qai,sub1,qdd,qdc,qde,List.length_replicate,Nat.le_refl,forall_const,false_implies,true_implies,ne_eq,not_true_eq_false,not_false_eq_true,decide_true,decide_false,decide_eq_true_eq,decide_eq_false_iff_not,Bool.not_eq_true',Bool.not_eq_false',implies_true]
      simp only[out,outs,out1,ho,Option.getD_some,qcz,qc0]
      exact⟨⟨trivial,trivial,by omega,by simp,by omega,sub_zero rfl⟩,trivial⟩
end Am
set_option maxRecDepth 20000
namespace Am
open Go.Proofs
theorem bAnd_nonneg64 (a b:Int):0≤bAnd .u64 a b:=by unfold bAnd;rw[wrap_u64];omega
/-- A word turned, as the code does it. -/
def rl (k:Go.IntKind) (n m x s:Int):Int:=bOr k (iShl k x (bAnd .u64 (Go.IntKind.u64.wrap s) m)) (iShr k x (Go.IntKind.u64.wrap (n-bAnd .u64 (Go.IntKind.u64.wrap s) m)))
def preRL (k:Go.IntKind) (ds:List D):Prop:=∃x s,ds=[.v (.int k x),.v (.int .i64 s)]
def F63:List D→Out
  | [.v (.int _ x),.v (.int _ s)]=>.one (.v (.int .u32 (rl .u32 32 31 x s)))
  | _=>bad
def s63:Summ:=sData [.v,.v] (preRL .u32) F63
theorem ok63 {g:List Blk} [Ge gl g]:SumOK Tryd.prog g 63 s63∧SumAbs s63:=by
  refine fsumG (l:=[]) mixed gl_plain rfl Tryd.func63 comp63 compR63 nt63 (by simp) fun ds ⟨x,s,hd⟩ hA=>?_
  subst hd
  simp only[ir63,rs63,gl,F63,↓qav,↓qaw,↓qay,↓qax,↓qcw,↓qbh,↓qaz,↓qcp,↓qb1,↓qcm,↓qb9,↓qci,↓qcj,↓qb2,↓qch,↓qcn,↓qb3,↓qck,↓qcl,↓qb4,↓qca,↓qb8,↓qb7,↓qb6,↓qb5,↓qa3,↓qba,↓qa4,↓qbb,↓qa5,↓qbc,↓qa6,↓qbd,↓qa7,↓qbe,↓qa8,↓qbf,↓qa9,↓qbg,↓qb0,↓qco,↓qcv,↓qcs,↓qct,↓qcu,↓qcr,↓qcq,↓qbk,↓qbl,↓qby,↓qbt,↓qbo,↓qbs,↓qbx,↓qbu,↓qbw,↓qbv,↓qbp,↓qbn,↓qbz,↓qbq,↓qbr,↓qbm,↓qa0,↓qa1,↓qa2,↓qbi,↓qbj,↓qe5,↓qe4,↓qe1,↓qe2,↓qex,↓qe8,↓qe7,↓qe6,qda,↓qey,↓qez,↓qe3,↓qc7,↓qc5,↓qc6,↓qfa,↓qfb,↓qfc,↓qe9,qaa,↓qe0,↓qek,↓qel,↓qfe,↓qfd,↓qeo,↓qdn,↓qdv,↓qdx,↓qdw,↓qec,↓qed,↓qeu,↓qev,↓qdr,↓qds,↓qdu,↓qdt,↓qd0,↓qew,↓qdy,↓qeq,↓qdq,↓qei,↓qer,↓qes,↓qet,↓qd4,↓qd3,↓qd5,↓qd6,↓qd8,↓qd2,↓qd9,↓qeb,↓qea,↓qdo,↓qdp,↓qd1,↓qau,↓qdz,↓qej,↓qef,↓qdm,↓qem,↓qeg,↓qep,↓qeh,↓qen,↓qcb,↓qcc,↓qcd,↓qce,↓qcf,↓qcg,qc8,qc9,qcx,qcy,↓qee,↓qd7,qat,qas,evs,evp,mkB,repB,fill,blen,qae,qad,qac,qab,qc4,qc3,qdk,qdl,qdi,qdj,qc1,qc2,qcz,qc0,↓qdg,↓qdf,↓qdh,↓qag,↓qaf,↓qah,↓retQ,res,resAll,resOne,kill,apartOk,exp,injV,injB,pur,purs,purR,pursR,List.set_cons_zero,List.set_cons_succ,List.length_cons,List.length_nil,List.cons_append,List.nil_append,List.append_nil,List.append_assoc,List.length_append,List.reduceReplicate,Nat.reduceAdd,Nat.reduceMul,Nat.reduceSub,Nat.reduceEqDiff,Nat.reduceLT,Nat.zero_add,Nat.add_zero,Nat.mul_one,Int.reduceToNat,Int.toNat_natCast,Int.cast_ofNat_Int,Int.reduceLE,Int.reduceLT,Int.reduceEq,reduceCtorEq,↓reduceIte,Bool.true_eq_false,Bool.false_eq_true,Bool.not_true,Bool.not_false,true_and,and_true,and_assoc,qai,sub1,qdd,qdc,qde,List.length_replicate,Nat.le_refl,forall_const,false_implies,true_implies,ne_eq,not_true_eq_false,not_false_eq_true,decide_true,decide_false,decide_eq_true_eq,decide_eq_false_iff_not,Bool.not_eq_true',Bool.not_eq_false',implies_true]
  refine⟨bAnd_nonneg64 _ _,by rw[wrap_u64];omega,out_int rfl⟩
theorem padded_len64 (xs:List Int):∃T,(padded xs 64).length=64*T∧64*T≤xs.length+200:=by
  have h:(padded xs 64).length=xs.length+1+(zs xs.length 64+0)+8:=by
    unfold padded
    rw[List.length_append,pz_len]
    rfl
  refine⟨(xs.length+9+zs xs.length 64)/64,?_,?_⟩
  · rw[h];unfold zs;omega
  · unfold zs;omega
theorem pursR_parts:∀{vs:List V},(∀v∈vs,Part v)→pursR vs=true
  | [],_=>by simp[pursR]
  | v::r,h=>by
    have ih:=pursR_parts (vs:=r) fun v hv=>h v (List.mem_cons_of_mem _ hv)
    rcases h v (by simp)with rfl | ⟨xs,rfl,hx⟩<;>simp[pursR,purR,ih]
end Am
