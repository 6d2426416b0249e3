/-
Working texts: contracts of functions, and the numbers behind them.
-/
import Derived.Test.YtcefobjfkmfmiaaDoorIrA
import Derived.Test.YtcefobjfkmfmiaaDoorAmLoop
import Derived.Test.YtcefobjfkmfmiaaDoorAmNum
set_option linter.unusedSimpArgs false
set_option linter.unusedVariables false
set_option linter.unusedSectionVars false
namespace Am
open Go.Proofs
def roots:List Int:=[0x428a2f98d728ae22,0x7137449123ef65cd,0xb5c0fbcfec4d3b2f,0xe9b5dba58189dbbc,0x3956c25bf348b538,
  0x59f111f1b605d019,0x923f82a4af194f9b,0xab1c5ed5da6d8118,0xd807aa98a3030242,0x12835b0145706fbe,
  0x243185be4ee4b28c,0x550c7dc3d5ffb4e2,0x72be5d74f27b896f,0x80deb1fe3b1696b1,0x9bdc06a725c71235,
  0xc19bf174cf692694,0xe49b69c19ef14ad2,0xefbe4786384f25e3,0x0fc19dc68b8cd5b5,0x240ca1cc77ac9c65,
  0x2de92c6f592b0275,0x4a7484aa6ea6e483,0x5cb0a9dcbd41fbd4,0x76f988da831153b5,0x983e5152ee66dfab,
  0xa831c66d2db43210,0xb00327c898fb213f,0xbf597fc7beef0ee4,0xc6e00bf33da88fc2,0xd5a79147930aa725,
  0x06ca6351e003826f,0x142929670a0e6e70,0x27b70a8546d22ffc,0x2e1b21385c26c926,0x4d2c6dfc5ac42aed,
  0x53380d139d95b3df,0x650a73548baf63de,0x766a0abb3c77b2a8,0x81c2c92e47edaee6,0x92722c851482353b,
  0xa2bfe8a14cf10364,0xa81a664bbc423001,0xc24b8b70d0f89791,0xc76c51a30654be30,0xd192e819d6ef5218,
  0xd69906245565a910,0xf40e35855771202a,0x106aa07032bbd1b8,0x19a4c116b8d2d0c8,0x1e376c085141ab53,
  0x2748774cdf8eeb99,0x34b0bcb5e19b48a8,0x391c0cb3c5c95a63,0x4ed8aa4ae3418acb,0x5b9cca4f7763e373,
  0x682e6ff3d6b2b8a3,0x748f82ee5defb2fc,0x78a5636f43172f60,0x84c87814a1f0ab72,0x8cc702081a6439ec,
  0x90befffa23631e28,0xa4506cebde82bde9,0xbef9a3f7b2c67915,0xc67178f2e372532b,0xca273eceea26619c,
  0xd186b8c721c0c207,0xeada7dd6cde0eb1e,0xf57d4f7fee6ed178,0x06f067aa72176fba,0x0a637dc5a2c898a6,
  0x113f9804bef90dae,0x1b710b35131c471b,0x28db77f523047d84,0x32caab7b40c72493,0x3c9ebe0a15c9bebc,
  0x431d67c49c100d4c,0x4cc5d4becb3e42b6,0x597f299cfc657e2a,0x5fcb6fab3ad6faec,0x6c44198c4a475817]
def seconds:List Int:=[0x6a09e667f3bcc908,0xbb67ae8584caa73b,0x3c6ef372fe94f82b,0xa54ff53a5f1d36f1,0x510e527fade682d1,
  0x9b05688c2b3e6c1f,0x1f83d9abfb41bd6b,0x5be0cd19137e2179]
def gl:List Blk:=[.ints true .u64 roots,.dead,.dead,.dead]
def gl1:List Blk:=[.ints true .u64 roots,.ints true .u64 roots,.ints true .u64 seconds,.dead]
theorem gl_plain:Plain gl:=by
  intro B hB
  simp only[gl,List.mem_cons,List.not_mem_nil,or_false]at hB
  rcases hB with rfl | rfl | rfl | rfl
  · exact⟨rfl,.inr ⟨_,_,_,rfl⟩⟩
  all_goals exact⟨rfl,.inl rfl⟩
theorem gl1_plain:Plain gl1:=by
  intro B hB
  simp only[gl1,List.mem_cons,List.not_mem_nil,or_false]at hB
  rcases hB with rfl | rfl | rfl | rfl
  · exact⟨rfl,.inr ⟨_,_,_,rfl⟩⟩
  · exact⟨rfl,.inr ⟨_,_,_,rfl⟩⟩
  · exact⟨rfl,.inr ⟨_,_,_,rfl⟩⟩
  · exact⟨rfl,.inl rfl⟩
instance ge00 : Ge gl gl := ⟨rfl, rfl, gl_plain, fun _ => .inl rfl⟩
instance ge11 : Ge gl1 gl1 := ⟨rfl, rfl, gl1_plain, fun _ => .inl rfl⟩
instance ge01 : Ge gl gl1 := ⟨rfl, rfl, gl1_plain, fun i => by
  rcases i with _ | _ | _ | _ | i
  · exact .inl rfl
  · exact .inr rfl
  · exact .inr rfl
  · exact .inl rfl
  · exact .inl rfl⟩
theorem mixed:Tryd.prog.follows .mixedOrders=true:=by kernel_rfl
def bad:Out:=.one (.v .nilp)
end Am
set_option maxRecDepth 20000
namespace Am
open Go.Proofs
/-- Bytes, 80, so many noughts. -/
def pz (xs:List Int) (i:Nat):List Int:=xs++128::List.replicate i 0
theorem pz_succ (xs:List Int) (i:Nat):pz xs i++[0]=pz xs (i+1):=by
  simp only[pz,List.append_assoc,List.cons_append,List.replicate_succ',List.append_cancel_left_eq,List.cons.injEq,true_and]
theorem pz_len (xs:List Int) (i:Nat):(pz xs i).length=xs.length+1+i:=by simp[pz];omega
/-- How many noughts come ahead of the number. -/
def zs (l n:Nat):Nat:=(2*n-n/8-(l+1)%n)%n
def be64 (n:Int):List Int:=[n/2^56%256,n/2^48%256,n/2^40%256,n/2^32%256,n/2^24%256,n/2^16%256,n/2^8%256,n%256]
def padded (xs:List Int) (n:Nat):List Int:=pz xs (zs xs.length n+(n/8-8))++be64 (8*xs.length)
def pre61 (ds:List E):Prop:=∃xs n,ds=[.s 1 xs.length .u8 xs,.v (.int .i64 (n:Nat))]∧(n=64∨n=128)∧Dig 256 xs∧xs.length≤1099511627776
def F61:List E→List (List E)×EOut
  | [.s _ _ _ xs,.v (.int _ n)]=>([],.one (.s 1 (padded xs n.toNat).length .u8 (padded xs n.toNat)))
  | _=>([],.one (.v .undef))
def s61:Summ:=sEff [.g 1 .u8,.v] pre61 F61
theorem take_getI {xs:List Int} {j:Nat} (h:j<xs.length):xs.take (j+1)=xs.take j++[getI xs j]:=by
  rw[List.take_add_one,List.getElem?_eq_getElem h,getI_eq h];rfl
theorem ok61 {g:List Blk} [Ge gl g]:SumOK Tryd.prog g 61 s61∧SumAbs s61:=by
  refine esum (l:=[]) mixed gl_plain rfl Tryd.func61 comp61 compR61 nt61 (by simp) fun ds ⟨xs,n,hd,hn,hx,hl⟩ hA=>?_
  subst hd
  have c8:Go.IntKind.u64.wrap (Go.IntKind.u64.wrap (xs.length:Int)*8)=(8*xs.length:Nat):=by rw[wrap_u64,wrap_u64];omega
  simp only[ir61,rs61,gl,F61,c8,List.drop_zero,↓qar,↓qan,↓qao,↓qap,↓qam,↓qaj,↓qak,↓qaq,↓qal,idsEs,idsE,idss,killB,effE,stA,wBlk,deads,nwA,cntA,cnts,cnt,valO,blkO,inj,injs,blk,blks,outA,outR,outE,outEs,sids,List.nodup_cons,List.nodup_nil,List.not_mem_nil,List.mem_cons,or_false,false_or,not_or,↓qav,↓qaw,↓qay,↓qax,↓qcw,↓qbh,↓qaz,↓qcp,↓qb1,↓qcm,↓qb9,↓qci,↓qcj,↓qb2,↓qch,↓qcn,↓qb3,↓qck,↓qcl,↓qb4,↓qca,↓qb8,↓qb7,↓qb6,↓qb5,↓qa3,↓qba,↓qa4,↓qbb,↓qa5,↓qbc,↓qa6,↓qbd,↓qa7,↓qbe,↓qa8,↓qbf,↓qa9,↓qbg,↓qb0,↓qco,↓qcv,↓qcs,↓qct,↓qcu,↓qcr,↓qcq,↓qbk,↓qbl,↓qby,↓qbt,↓qbo,↓qbs,↓qbx,↓qbu,↓qbw,↓qbv,↓qbp,↓qbn,↓qbz,↓qbq,↓qbr,↓qbm,↓qa0,↓qa1,↓qa2,↓qbi,↓qbj,↓qe5,↓qe4,↓qe1,↓qe2,↓qex,↓qe8,↓qe7,↓qe6,qda,↓qey,↓qez,↓qe3,↓qc7,↓qc5,↓qc6,↓qfa,↓qfb,↓qfc,↓qe9,qaa,↓qe0,↓qek,↓qel,↓qfe,↓qfd,↓qeo,↓qdn,↓qdv,↓qdx,↓qdw,↓qec,↓qed,↓qeu,↓qev,↓qdr,↓qds,↓qdu,↓qdt,↓qd0,↓qew,↓qdy,↓qeq,↓qdq,↓qei,↓qer,↓qes,↓qet,↓qd4,↓qd3,↓qd5,↓qd6,↓qd8,↓qd2,↓qd9,↓qeb,↓qea,↓qdo,↓qdp,↓qd1,↓qau,↓qdz,↓qej,↓qef,↓qdm,↓qem,↓qeg,↓qep,↓qeh,↓qen,↓qcb,↓qcc,↓qcd,↓qce,↓qcf,↓qcg,qc8,qc9,qcx,qcy,↓qee,↓qd7,qat,qas,evs,evp,mkB,repB,fill,blen,qae,qad,qac,qab,qc4,qc3,qdk,qdl,qdi,qdj,qc1,qc2,qcz,qc0,↓qdg,↓qdf,↓qdh,↓qag,↓qaf,↓qah,↓retQ,res,resAll,resOne,kill,apartOk,exp,injV,injB,pur,purs,purR,pursR,List.set_cons_zero,List.set_cons_succ,List.length_cons,List.length_nil,List.cons_append,List.nil_append,List.append_nil,List.append_assoc,List.length_append,List.reduceReplicate,Nat.reduceAdd,Nat.reduceMul,Nat.reduceSub,Nat.reduceEqDiff,Nat.reduceLT,Nat.zero_add,Nat.add_zero,Nat.mul_one,Int.reduceToNat,Int.toNat_natCast,Int.cast_ofNat_Int,Int.reduceLE,Int.reduceLT,Int.reduceEq,reduceCtorEq,↓reduceIte,Bool.true_eq_false,Bool.false_eq_true,Bool.not_true,Bool.not_false,true_and,and_true,and_assoc,qai,sub1,qdd,qdc,qde,List.length_replicate,Nat.le_refl,forall_const,false_implies,true_implies,ne_eq,not_true_eq_false,not_false_eq_true,decide_true,decide_false,decide_eq_true_eq,decide_eq_false_iff_not,Bool.not_eq_true',Bool.not_eq_false',implies_true]
  refine⟨by omega,?_⟩
  have p0:xs++[128]=pz xs 0:=rfl
  have hz:∀i,i≤zs xs.length n→((xs.length+1+i)%n=n-n/8↔i=zs xs.length n):=by
    intro i hi
    unfold zs at hi ⊢
    rcases hn with rfl | rfl<;>omega
  have hzb:zs xs.length n<128:=by
    unfold zs
    rcases hn with rfl | rfl<;>omega
  have hn0:¬(n:Int)=0:=by omega
  have hn8:Go.IntKind.i64.wrap ((n:Int)-Go.IntKind.i64.wrap ((n:Int).tdiv 8))=((n-n/8:Nat):Int):=by
    rw[wrap_i64,wrap_i64,Int.tdiv_eq_ediv_of_nonneg (by omega)];omega
  have hn9:Go.IntKind.i64.wrap ((n:Int).tdiv 8)=((n/8:Nat):Int):=by
    rw[wrap_i64,Int.tdiv_eq_ediv_of_nonneg (by omega)];omega
  have hm:∀i:Nat,((xs.length+1+i:Nat):Int).tmod (n:Int)=(((xs.length+1+i)%n:Nat):Int):=fun i=>by
    rw[Int.tmod_eq_emod_of_nonneg (by omega)];omega
  refine awp_loopG hA (fun i:Nat=>⟨[.slice 5 0 1 (xs.length+1+i) (xs.length+1+i),.int .i64 n,.undef,.undef,.undef,.int .u64 (8*xs.length:Nat)]++List.replicate 42 .undef,[.ints true .u64 roots,.dead,.dead,.dead,.dead,.ints false .u8 (pz xs i)]⟩)
    (fun i=>i≤zs xs.length n) (fun i=>zs xs.length n-i) 0 ?_ (by omega) ?_
  · refine Weak.of [0,1,2,3,4,6] (by decide) (by decide) (by simp) ?_
    simp only[gc,gcVs,gcV,posOf,gcH,gcB,Option.map_some,Option.map_none,List.replicate_zero,List.drop_zero,↓qav,↓qaw,↓qay,↓qax,↓qcw,↓qbh,↓qaz,↓qcp,↓qb1,↓qcm,↓qb9,↓qci,↓qcj,↓qb2,↓qch,↓qcn,↓qb3,↓qck,↓qcl,↓qb4,↓qca,↓qb8,↓qb7,↓qb6,↓qb5,↓qa3,↓qba,↓qa4,↓qbb,↓qa5,↓qbc,↓qa6,↓qbd,↓qa7,↓qbe,↓qa8,↓qbf,↓qa9,↓qbg,↓qb0,↓qco,↓qcv,↓qcs,↓qct,↓qcu,↓qcr,↓qcq,↓qbk,↓qbl,↓qby,↓qbt,↓qbo,↓qbs,↓qbx,↓qbu,↓qbw,↓qbv,↓qbp,↓qbn,↓qbz,↓qbq,↓qbr,↓qbm,↓qa0,↓qa1,↓qa2,↓qbi,↓qbj,↓qe5,↓qe4,↓qe1,↓qe2,↓qex,↓qe8,↓qe7,↓qe6,qda,↓qey,↓qez,↓qe3,↓qc7,↓qc5,↓qc6,↓qfa,↓qfb,↓qfc,↓qe9,qaa,↓qe0,↓qek,↓qel,↓qfe,↓qfd,↓qeo,↓qdn,↓qdv,↓qdx,↓qdw,↓qec,↓qed,↓qeu,↓qev,↓qdr,↓qds,↓qdu,↓qdt,↓qd0,↓qew,↓qdy,↓qeq,↓qdq,↓qei,↓qer,↓qes,↓qet,↓qd4,↓qd3,↓qd5,↓qd6,↓qd8,↓qd2,↓qd9,↓qeb,↓qea,↓qdo,↓qdp,↓qd1,↓qau,↓qdz,↓qej,↓qef,↓qdm,↓qem,↓qeg,↓qep,↓qeh,↓qen,↓qcb,↓qcc,↓qcd,↓qce,↓qcf,↓qcg,qc8,qc9,qcx,qcy,↓qee,↓qd7,qat,qas,evs,evp,mkB,repB,fill,blen,qae,qad,qac,qab,qc4,qc3,qdk,qdl,qdi,qdj,qc1,qc2,qcz,qc0,↓qdg,↓qdf,↓qdh,↓qag,↓qaf,↓qah,↓retQ,res,resAll,resOne,kill,apartOk,exp,injV,injB,pur,purs,purR,pursR,List.set_cons_zero,List.set_cons_succ,List.length_cons,List.length_nil,List.cons_append,List.nil_append,List.append_nil,List.append_assoc,List.length_append,List.reduceReplicate,Nat.reduceAdd,Nat.reduceMul,Nat.reduceSub,Nat.reduceEqDiff,Nat.reduceLT,Nat.zero_add,Nat.add_zero,Nat.mul_one,Int.reduceToNat,Int.toNat_natCast,Int.cast_ofNat_Int,Int.reduceLE,Int.reduceLT,Int.reduceEq,reduceCtorEq,↓reduceIte,Bool.true_eq_false,Bool.false_eq_true,Bool.not_true,Bool.not_false,true_and,and_true,and_assoc,qai,sub1,qdd,qdc,qde,List.length_replicate,Nat.le_refl,forall_const,false_implies,true_implies,ne_eq,not_true_eq_false,not_false_eq_true,decide_true,decide_false,decide_eq_true_eq,decide_eq_false_iff_not,Bool.not_eq_true',Bool.not_eq_false',implies_true,p0]
  intro i hi K hK
  simp only[hm,hn8,hn0,↓qav,↓qaw,↓qay,↓qax,↓qcw,↓qbh,↓qaz,↓qcp,↓qb1,↓qcm,↓qb9,↓qci,↓qcj,↓qb2,↓qch,↓qcn,↓qb3,↓qck,↓qcl,↓qb4,↓qca,↓qb8,↓qb7,↓qb6,↓qb5,↓qa3,↓qba,↓qa4,↓qbb,↓qa5,↓qbc,↓qa6,↓qbd,↓qa7,↓qbe,↓qa8,↓qbf,↓qa9,↓qbg,↓qb0,↓qco,↓qcv,↓qcs,↓qct,↓qcu,↓qcr,↓qcq,↓qbk,↓qbl,↓qby,↓qbt,↓qbo,↓qbs,↓qbx,↓qbu,↓qbw,↓qbv,↓qbp,↓qbn,↓qbz,↓qbq,↓qbr,↓qbm,↓qa0,↓qa1,↓qa2,↓qbi,↓qbj,↓qe5,↓qe4,↓qe1,↓qe2,↓qex,↓qe8,↓qe7,↓qe6,qda,↓qey,↓qez,↓qe3,↓qc7,↓qc5,↓qc6,↓qfa,↓qfb,↓qfc,↓qe9,qaa,↓qe0,↓qek,↓qel,↓qfe,↓qfd,↓qeo,↓qdn,↓qdv,↓qdx,↓qdw,↓qec,↓qed,↓qeu,↓qev,↓qdr,↓qds,↓qdu,↓qdt,↓qd0,↓qew,↓qdy,↓qeq,↓qdq,↓qei,↓qer,↓qes,↓qet,↓qd4,↓qd3,↓qd5,↓qd6,↓qd8,↓qd2,↓qd9,↓qeb,↓qea,↓qdo,↓qdp,↓qd1,↓qau,↓qdz,↓qej,↓qef,↓qdm,↓qem,↓qeg,↓qep,↓qeh,↓qen,↓qcb,↓qcc,↓qcd,↓qce,↓qcf,↓qcg,qc8,qc9,qcx,qcy,↓qee,↓qd7,qat,qas,evs,evp,mkB,repB,fill,blen,qae,qad,qac,qab,qc4,qc3,qdk,qdl,qdi,qdj,qc1,qc2,qcz,qc0,↓qdg,↓qdf,↓qdh,↓qag,↓qaf,↓qah,↓retQ,res,resAll,resOne,kill,apartOk,exp,injV,injB,pur,purs,purR,pursR,List.set_cons_zero,List.set_cons_succ,List.length_cons,List.length_nil,List.cons_append,List.nil_append,List.append_nil,List.append_assoc,List.length_append,List.reduceReplicate,Nat.reduceAdd,Nat.reduceMul,Nat.reduceSub,Nat.reduceEqDiff,Nat.reduceLT,Nat.zero_add,Nat.add_zero,Nat.mul_one,Int.reduceToNat,Int.toNat_natCast,Int.cast_ofNat_Int,Int.reduceLE,Int.reduceLT,Int.reduceEq,reduceCtorEq,↓reduceIte,Bool.true_eq_false,Bool.false_eq_true,Bool.not_true,Bool.not_false,true_and,and_true,and_assoc,qai,sub1,qdd,qdc,qde,List.length_replicate,Nat.le_refl,forall_const,false_implies,true_implies,ne_eq,not_true_eq_false,not_false_eq_true,decide_true,decide_false,decide_eq_true_eq,decide_eq_false_iff_not,Bool.not_eq_true',Bool.not_eq_false',implies_true]
  refine⟨fun h=>?_,fun h=>?_⟩
  · try simp only[decide_eq_true_eq]at h
    have hlt:i<zs xs.length n:=by
      rcases Nat.lt_or_ge i (zs xs.length n)with h1 | h1
      · exact h1
      · exact absurd (by rw[(hz i hi).2 (by omega)]) h
    refine⟨by omega,pz_len xs i,i+1,hK _ (by omega) (by omega),Weak.of [0,1,2,3,4,7] (by decide) (by decide) (by simp) ?_⟩
    simp only[gc,gcVs,gcV,posOf,gcH,gcB,Option.map_some,Option.map_none,List.replicate_zero,List.drop_zero,↓qav,↓qaw,↓qay,↓qax,↓qcw,↓qbh,↓qaz,↓qcp,↓qb1,↓qcm,↓qb9,↓qci,↓qcj,↓qb2,↓qch,↓qcn,↓qb3,↓qck,↓qcl,↓qb4,↓qca,↓qb8,↓qb7,↓qb6,↓qb5,↓qa3,↓qba,↓qa4,↓qbb,↓qa5,↓qbc,↓qa6,↓qbd,↓qa7,↓qbe,↓qa8,↓qbf,↓qa9,↓qbg,↓qb0,↓qco,↓qcv,↓qcs,↓qct,↓qcu,↓qcr,↓qcq,↓qbk,↓qbl,↓qby,↓qbt,↓qbo,↓qbs,↓qbx,↓qbu,↓qbw,↓qbv,↓qbp,↓qbn,↓qbz,↓qbq,↓qbr,↓qbm,↓qa0,↓qa1,↓qa2,↓qbi,↓qbj,↓qe5,↓qe4,↓qe1,↓qe2,↓qex,↓qe8,↓qe7,↓qe6,qda,↓qey,↓qez,↓qe3,↓qc7,↓qc5,↓qc6,↓qfa,↓qfb,↓qfc,↓qe9,qaa,↓qe0,↓qek,↓qel,↓qfe,↓qfd,↓qeo,↓qdn,↓qdv,↓qdx,↓qdw,↓qec,↓qed,↓qeu,↓qev,↓qdr,↓qds,↓qdu,↓qdt,↓qd0,↓qew,↓qdy,↓qeq,↓qdq,↓qei,↓qer,↓qes,↓qet,↓qd4,↓qd3,↓qd5,↓qd6,↓qd8,↓qd2,↓qd9,↓qeb,↓qea,↓qdo,↓qdp,↓qd1,↓qau,↓qdz,↓qej,↓qef,↓qdm,↓qem,↓qeg,↓qep,↓qeh,↓qen,↓qcb,↓qcc,↓qcd,↓qce,↓qcf,↓qcg,qc8,qc9,qcx,qcy,↓qee,↓qd7,qat,qas,evs,evp,mkB,repB,fill,blen,qae,qad,qac,qab,qc4,qc3,qdk,qdl,qdi,qdj,qc1,qc2,qcz,qc0,↓qdg,↓qdf,↓qdh,↓qag,↓qaf,↓qah,↓retQ,res,resAll,resOne,kill,apartOk,exp,injV,injB,pur,purs,purR,pursR,List.set_cons_zero,List.set_cons_succ,List.length_cons,List.length_nil,List.cons_append,List.nil_append,List.append_nil,List.append_assoc,List.length_append,List.reduceReplicate,Nat.reduceAdd,Nat.reduceMul,Nat.reduceSub,Nat.reduceEqDiff,Nat.reduceLT,Nat.zero_add,Nat.add_zero,Nat.mul_one,Int.reduceToNat,Int.toNat_natCast,Int.cast_ofNat_Int,Int.reduceLE,Int.reduceLT,Int.reduceEq,reduceCtorEq,↓reduceIte,Bool.true_eq_false,Bool.false_eq_true,Bool.not_true,Bool.not_false,true_and,and_true,and_assoc,qai,sub1,qdd,qdc,qde,List.length_replicate,Nat.le_refl,forall_const,false_implies,true_implies,ne_eq,not_true_eq_false,not_false_eq_true,decide_true,decide_false,decide_eq_true_eq,decide_eq_false_iff_not,Bool.not_eq_true',Bool.not_eq_false',implies_true,pz_succ,Nat.add_assoc]
  · try simp only[decide_eq_false_iff_not]at h
    have hiz:i=zs xs.length n:=(hz i hi).1 (by omega)
    clear hK h hi
    subst hiz
    obtain⟨Z,hZ⟩:∃Z,zs xs.length n=Z:=⟨_,rfl⟩
    rw[hZ]at hzb ⊢
    refine awp_loopG hA (fun i:Nat=>⟨[.slice 5 0 1 (xs.length+1+(Z+i)) (xs.length+1+(Z+i)),.int .i64 n,.undef,.undef,.undef,.int .u64 (8*xs.length:Nat),.int .i64 (8+i:Nat)]++List.replicate 41 .undef,[.ints true .u64 roots,.dead,.dead,.dead,.dead,.ints false .u8 (pz xs (Z+i))]⟩)
      (fun i=>i≤n/8-8) (fun i=>n/8-8-i) 0 ?_ (by omega) ?_
    · refine .inl ?_
      simp only[↓qav,↓qaw,↓qay,↓qax,↓qcw,↓qbh,↓qaz,↓qcp,↓qb1,↓qcm,↓qb9,↓qci,↓qcj,↓qb2,↓qch,↓qcn,↓qb3,↓qck,↓qcl,↓qb4,↓qca,↓qb8,↓qb7,↓qb6,↓qb5,↓qa3,↓qba,↓qa4,↓qbb,↓qa5,↓qbc,↓qa6,↓qbd,↓qa7,↓qbe,↓qa8,↓qbf,↓qa9,↓qbg,↓qb0,↓qco,↓qcv,↓qcs,↓qct,↓qcu,↓qcr,↓qcq,↓qbk,↓qbl,↓qby,↓qbt,↓qbo,↓qbs,↓qbx,↓qbu,↓qbw,↓qbv,↓qbp,↓qbn,↓qbz,↓qbq,↓qbr,↓qbm,↓qa0,↓qa1,↓qa2,↓qbi,↓qbj,↓qe5,↓qe4,↓qe1,↓qe2,↓qex,↓qe8,↓qe7,↓qe6,qda,↓qey,↓qez,↓qe3,↓qc7,↓qc5,↓qc6,↓qfa,↓qfb,↓qfc,↓qe9,qaa,↓qe0,↓qek,↓qel,↓qfe,↓qfd,↓qeo,↓qdn,↓qdv,↓qdx,↓qdw,↓qec,↓qed,↓qeu,↓qev,↓qdr,↓qds,↓qdu,↓qdt,↓qd0,↓qew,↓qdy,↓qeq,↓qdq,↓qei,↓qer,↓qes,↓qet,↓qd4,↓qd3,↓qd5,↓qd6,↓qd8,↓qd2,↓qd9,↓qeb,↓qea,↓qdo,↓qdp,↓qd1,↓qau,↓qdz,↓qej,↓qef,↓qdm,↓qem,↓qeg,↓qep,↓qeh,↓qen,↓qcb,↓qcc,↓qcd,↓qce,↓qcf,↓qcg,qc8,qc9,qcx,qcy,↓qee,↓qd7,qat,qas,evs,evp,mkB,repB,fill,blen,qae,qad,qac,qab,qc4,qc3,qdk,qdl,qdi,qdj,qc1,qc2,qcz,qc0,↓qdg,↓qdf,↓qdh,↓qag,↓qaf,↓qah,↓retQ,res,resAll,resOne,kill,apartOk,exp,injV,injB,pur,purs,purR,pursR,List.set_cons_zero,List.set_cons_succ,List.length_cons,List.length_nil,List.cons_append,List.nil_append,List.append_nil,List.append_assoc,List.length_append,List.reduceReplicate,Nat.reduceAdd,Nat.reduceMul,Nat.reduceSub,Nat.reduceEqDiff,Nat.reduceLT,Nat.zero_add,Nat.add_zero,Nat.mul_one,Int.reduceToNat,Int.toNat_natCast,Int.cast_ofNat_Int,Int.reduceLE,Int.reduceLT,Int.reduceEq,reduceCtorEq,↓reduceIte,Bool.true_eq_false,Bool.false_eq_true,Bool.not_true,Bool.not_false,true_and,and_true,and_assoc,qai,sub1,qdd,qdc,qde,List.length_replicate,Nat.le_refl,forall_const,false_implies,true_implies,ne_eq,not_true_eq_false,not_false_eq_true,decide_true,decide_false,decide_eq_true_eq,decide_eq_false_iff_not,Bool.not_eq_true',Bool.not_eq_false',implies_true]
    intro i hi K hK
    have w8:Go.IntKind.i64.wrap (((8+i:Nat):Int)+1)=((8+(i+1):Nat):Int):=by rw[wrap_i64];omega
    simp only[hn9,w8,↓qav,↓qaw,↓qay,↓qax,↓qcw,↓qbh,↓qaz,↓qcp,↓qb1,↓qcm,↓qb9,↓qci,↓qcj,↓qb2,↓qch,↓qcn,↓qb3,↓qck,↓qcl,↓qb4,↓qca,↓qb8,↓qb7,↓qb6,↓qb5,↓qa3,↓qba,↓qa4,↓qbb,↓qa5,↓qbc,↓qa6,↓qbd,↓qa7,↓qbe,↓qa8,↓qbf,↓qa9,↓qbg,↓qb0,↓qco,↓qcv,↓qcs,↓qct,↓qcu,↓qcr,↓qcq,↓qbk,↓qbl,↓qby,↓qbt,↓qbo,↓qbs,↓qbx,↓qbu,↓qbw,↓qbv,↓qbp,↓qbn,↓qbz,↓qbq,↓qbr,↓qbm,↓qa0,↓qa1,↓qa2,↓qbi,↓qbj,↓qe5,↓qe4,↓qe1,↓qe2,↓qex,↓qe8,↓qe7,↓qe6,qda,↓qey,↓qez,↓qe3,↓qc7,↓qc5,↓qc6,↓qfa,↓qfb,↓qfc,↓qe9,qaa,↓qe0,↓qek,↓qel,↓qfe,↓qfd,↓qeo,↓qdn,↓qdv,↓qdx,↓qdw,↓qec,↓qed,↓qeu,↓qev,↓qdr,↓qds,↓qdu,↓qdt,↓qd0,↓qew,↓qdy,↓qeq,↓qdq,↓qei,↓qer,↓qes,↓qet,↓qd4,↓qd3,↓qd5,↓qd6,↓qd8,↓qd2,↓qd9,↓qeb,↓qea,↓qdo,↓qdp,↓qd1,↓qau,↓qdz,↓qej,↓qef,↓qdm,↓qem,↓qeg,↓qep,↓qeh,↓qen,↓qcb,↓qcc,↓qcd,↓qce,↓qcf,↓qcg,qc8,qc9,qcx,qcy,↓qee,↓qd7,qat,qas,evs,evp,mkB,repB,fill,blen,qae,qad,qac,qab,qc4,qc3,qdk,qdl,qdi,qdj,qc1,qc2,qcz,qc0,↓qdg,↓qdf,↓qdh,↓qag,↓qaf,↓qah,↓retQ,res,resAll,resOne,kill,apartOk,exp,injV,injB,pur,purs,purR,pursR,List.set_cons_zero,List.set_cons_succ,List.length_cons,List.length_nil,List.cons_append,List.nil_append,List.append_nil,List.append_assoc,List.length_append,List.reduceReplicate,Nat.reduceAdd,Nat.reduceMul,Nat.reduceSub,Nat.reduceEqDiff,Nat.reduceLT,Nat.zero_add,Nat.add_zero,Nat.mul_one,Int.reduceToNat,Int.toNat_natCast,Int.cast_ofNat_Int,Int.reduceLE,Int.reduceLT,Int.reduceEq,reduceCtorEq,↓reduceIte,Bool.true_eq_false,Bool.false_eq_true,Bool.not_true,Bool.not_false,true_and,and_true,and_assoc,qai,sub1,qdd,qdc,qde,List.length_replicate,Nat.le_refl,forall_const,false_implies,true_implies,ne_eq,not_true_eq_false,not_false_eq_true,decide_true,decide_false,decide_eq_true_eq,decide_eq_false_iff_not,Bool.not_eq_true',Bool.not_eq_false',implies_true]
    refine⟨fun h=>?_,fun h=>?_⟩
    · try simp only[decide_eq_true_eq]at h
      refine⟨by omega,pz_len xs _,i+1,hK _ (by omega) (by omega),Weak.of [0,1,2,3,4,7] (by decide) (by decide) (by simp) ?_⟩
      simp only[gc,gcVs,gcV,posOf,gcH,gcB,Option.map_some,Option.map_none,List.replicate_zero,List.drop_zero,↓qav,↓qaw,↓qay,↓qax,↓qcw,↓qbh,↓qaz,↓qcp,↓qb1,↓qcm,↓qb9,↓qci,↓qcj,↓qb2,↓qch,↓qcn,↓qb3,↓qck,↓qcl,↓qb4,↓qca,↓qb8,↓qb7,↓qb6,↓qb5,↓qa3,↓qba,↓qa4,↓qbb,↓qa5,↓qbc,↓qa6,↓qbd,↓qa7,↓qbe,↓qa8,↓qbf,↓qa9,↓qbg,↓qb0,↓qco,↓qcv,↓qcs,↓qct,↓qcu,↓qcr,↓qcq,↓qbk,↓qbl,↓qby,↓qbt,↓qbo,↓qbs,↓qbx,↓qbu,↓qbw,↓qbv,↓qbp,↓qbn,↓qbz,↓qbq,↓qbr,↓qbm,↓qa0,↓qa1,↓qa2,↓qbi,↓qbj,↓qe5,↓qe4,↓qe1,↓qe2,↓qex,↓qe8,↓qe7,↓qe6,qda,↓qey,↓qez,↓qe3,↓qc7,↓qc5,↓qc6,↓qfa,↓qfb,↓qfc,↓qe9,qaa,↓qe0,↓qek,↓qel,↓qfe,↓qfd,↓qeo,↓qdn,↓qdv,↓qdx,↓qdw,↓qec,↓qed,↓qeu,↓qev,↓qdr,↓qds,↓qdu,↓qdt,↓qd0,↓qew,↓qdy,↓qeq,↓qdq,↓qei,↓qer,↓qes,↓qet,↓qd4,↓qd3,↓qd5,↓qd6,↓qd8,↓qd2,↓qd9,↓qeb,↓qea,↓qdo,↓qdp,↓qd1,↓qau,↓qdz,↓qej,↓qef,↓qdm,↓qem,↓qeg,↓qep,↓qeh,↓qen,↓qcb,↓qcc,↓qcd,↓qce,↓qcf,↓qcg,qc8,qc9,qcx,qcy,↓qee,↓qd7,qat,qas,evs,evp,mkB,repB,fill,blen,qae,qad,qac,qab,qc4,qc3,qdk,qdl,qdi,qdj,qc1,qc2,qcz,qc0,↓qdg,↓qdf,↓qdh,↓qag,↓qaf,↓qah,↓retQ,res,resAll,resOne,kill,apartOk,exp,injV,injB,pur,purs,purR,pursR,List.set_cons_zero,List.set_cons_succ,List.length_cons,List.length_nil,List.cons_append,List.nil_append,List.append_nil,List.append_assoc,List.length_append,List.reduceReplicate,Nat.reduceAdd,Nat.reduceMul,Nat.reduceSub,Nat.reduceEqDiff,Nat.reduceLT,Nat.zero_add,Nat.add_zero,Nat.mul_one,Int.reduceToNat,Int.toNat_natCast,Int.cast_ofNat_Int,Int.reduceLE,Int.reduceLT,Int.reduceEq,reduceCtorEq,↓reduceIte,Bool.true_eq_false,Bool.false_eq_true,Bool.not_true,Bool.not_false,true_and,and_true,and_assoc,qai,sub1,qdd,qdc,qde,List.length_replicate,Nat.le_refl,forall_const,false_implies,true_implies,ne_eq,not_true_eq_false,not_false_eq_true,decide_true,decide_false,decide_eq_true_eq,decide_eq_false_iff_not,Bool.not_eq_true',Bool.not_eq_false',implies_true,pz_succ,Nat.add_assoc]
    · try simp only[decide_eq_false_iff_not]at h
      have hin:i=n/8-8:=by omega
      subst hin
      clear hK hi w8 h
      obtain⟨L,hL⟩:∃L,Z+(n/8-8)=L:=⟨_,rfl⟩
      have hLb:L<256:=by omega
      obtain⟨N,hN⟩:∃N:Int,((8*xs.length:Nat):Int)=N:=⟨_,rfl⟩
      have hN0:0≤N:=by omega
      have hb:∀j,j<8→Go.IntKind.u8.wrap (iShr .u64 N (56-8*(j:Nat):Int))=getI (be64 N) j:=by
        intro j hj
        rw[iShr_eq,wrap_u8]
        rcases (by omega:j=0∨j=1∨j=2∨j=3∨j=4∨j=5∨j=6∨j=7)with rfl | rfl | rfl | rfl | rfl | rfl | rfl | rfl<;>simp[be64,getI,Go.IntKind.bits]
      have hbl:(be64 N).length=8:=rfl
      rw[hL,hN]
      refine awp_loopG hA (fun j:Nat=>⟨[.slice 5 0 1 (xs.length+1+L+j) (xs.length+1+L+j),.undef,.undef,.undef,.undef,.int .u64 N,.undef,.int .i64 (56-8*(j:Nat):Int)]++List.replicate 40 .undef,[.ints true .u64 roots,.dead,.dead,.dead,.dead,.ints false .u8 (pz xs L++(be64 N).take j)]⟩)
        (fun j=>j≤8) (fun j=>8-j) 0 ?_ (by omega) ?_
      · refine .inl ?_
        simp only[↓qav,↓qaw,↓qay,↓qax,↓qcw,↓qbh,↓qaz,↓qcp,↓qb1,↓qcm,↓qb9,↓qci,↓qcj,↓qb2,↓qch,↓qcn,↓qb3,↓qck,↓qcl,↓qb4,↓qca,↓qb8,↓qb7,↓qb6,↓qb5,↓qa3,↓qba,↓qa4,↓qbb,↓qa5,↓qbc,↓qa6,↓qbd,↓qa7,↓qbe,↓qa8,↓qbf,↓qa9,↓qbg,↓qb0,↓qco,↓qcv,↓qcs,↓qct,↓qcu,↓qcr,↓qcq,↓qbk,↓qbl,↓qby,↓qbt,↓qbo,↓qbs,↓qbx,↓qbu,↓qbw,↓qbv,↓qbp,↓qbn,↓qbz,↓qbq,↓qbr,↓qbm,↓qa0,↓qa1,↓qa2,↓qbi,↓qbj,↓qe5,↓qe4,↓qe1,↓qe2,↓qex,↓qe8,↓qe7,↓qe6,qda,↓qey,↓qez,↓qe3,↓qc7,↓qc5,↓qc6,↓qfa,↓qfb,↓qfc,↓qe9,qaa,↓qe0,↓qek,↓qel,↓qfe,↓qfd,↓qeo,↓qdn,↓qdv,↓qdx,↓qdw,↓qec,↓qed,↓qeu,↓qev,↓qdr,↓qds,↓qdu,↓qdt,↓qd0,↓qew,↓qdy,↓qeq,↓qdq,↓qei,↓qer,↓qes,↓qet,↓qd4,↓qd3,↓qd5,↓qd6,↓qd8,↓qd2,↓qd9,↓qeb,↓qea,↓qdo,↓qdp,↓qd1,↓qau,↓qdz,↓qej,↓qef,↓qdm,↓qem,↓qeg,↓qep,↓qeh,↓qen,↓qcb,↓qcc,↓qcd,↓qce,↓qcf,↓qcg,qc8,qc9,qcx,qcy,↓qee,↓qd7,qat,qas,evs,evp,mkB,repB,fill,blen,qae,qad,qac,qab,qc4,qc3,qdk,qdl,qdi,qdj,qc1,qc2,qcz,qc0,↓qdg,↓qdf,↓qdh,↓qag,↓qaf,↓qah,↓retQ,res,resAll,resOne,kill,apartOk,exp,injV,injB,pur,purs,purR,pursR,List.set_cons_zero,List.set_cons_succ,List.length_cons,List.length_nil,List.cons_append,List.nil_append,List.append_nil,List.append_assoc,List.length_append,List.reduceReplicate,Nat.reduceAdd,Nat.reduceMul,Nat.reduceSub,Nat.reduceEqDiff,Nat.reduceLT,Nat.zero_add,Nat.add_zero,Nat.mul_one,Int.reduceToNat,Int.toNat_natCast,Int.cast_ofNat_Int,Int.reduceLE,Int.reduceLT,Int.reduceEq,reduceCtorEq,↓reduceIte,Bool.true_eq_false,Bool.false_eq_true,Bool.not_true,Bool.not_false,true_and,and_true,and_assoc,qai,sub1,qdd,qdc,qde,List.length_replicate,Nat.le_refl,forall_const,false_implies,true_implies,ne_eq,not_true_eq_false,not_false_eq_true,decide_true,decide_false,decide_eq_true_eq,decide_eq_false_iff_not,Bool.not_eq_true',Bool.not_eq_false',implies_true,List.take_zero,Int.mul_zero,Int.sub_zero,Int.natCast_zero]
      intro j hj K hK
      have w8:Go.IntKind.i64.wrap (56-8*(j:Nat)-8:Int)=(56-8*((j+1:Nat):Int)):=by rw[wrap_i64];omega
      simp only[w8,↓qav,↓qaw,↓qay,↓qax,↓qcw,↓qbh,↓qaz,↓qcp,↓qb1,↓qcm,↓qb9,↓qci,↓qcj,↓qb2,↓qch,↓qcn,↓qb3,↓qck,↓qcl,↓qb4,↓qca,↓qb8,↓qb7,↓qb6,↓qb5,↓qa3,↓qba,↓qa4,↓qbb,↓qa5,↓qbc,↓qa6,↓qbd,↓qa7,↓qbe,↓qa8,↓qbf,↓qa9,↓qbg,↓qb0,↓qco,↓qcv,↓qcs,↓qct,↓qcu,↓qcr,↓qcq,↓qbk,↓qbl,↓qby,↓qbt,↓qbo,↓qbs,↓qbx,↓qbu,↓qbw,↓qbv,↓qbp,↓qbn,↓qbz,↓qbq,↓qbr,↓qbm,↓qa0,↓qa1,↓qa2,↓qbi,↓qbj,↓qe5,↓qe4,↓qe1,↓qe2,↓qex,↓qe8,↓qe7,↓qe6,qda,↓qey,↓qez,↓qe3,↓qc7,↓qc5,↓qc6,↓qfa,↓qfb,↓qfc,↓qe9,qaa,↓qe0,↓qek,↓qel,↓qfe,↓qfd,↓qeo,↓qdn,↓qdv,↓qdx,↓qdw,↓qec,↓qed,↓qeu,↓qev,↓qdr,↓qds,↓qdu,↓qdt,↓qd0,↓qew,↓qdy,↓qeq,↓qdq,↓qei,↓qer,↓qes,↓qet,↓qd4,↓qd3,↓qd5,↓qd6,↓qd8,↓qd2,↓qd9,↓qeb,↓qea,↓qdo,↓qdp,↓qd1,↓qau,↓qdz,↓qej,↓qef,↓qdm,↓qem,↓qeg,↓qep,↓qeh,↓qen,↓qcb,↓qcc,↓qcd,↓qce,↓qcf,↓qcg,qc8,qc9,qcx,qcy,↓qee,↓qd7,qat,qas,evs,evp,mkB,repB,fill,blen,qae,qad,qac,qab,qc4,qc3,qdk,qdl,qdi,qdj,qc1,qc2,qcz,qc0,↓qdg,↓qdf,↓qdh,↓qag,↓qaf,↓qah,↓retQ,res,resAll,resOne,kill,apartOk,exp,injV,injB,pur,purs,purR,pursR,List.set_cons_zero,List.set_cons_succ,List.length_cons,List.length_nil,List.cons_append,List.nil_append,List.append_nil,List.append_assoc,List.length_append,List.reduceReplicate,Nat.reduceAdd,Nat.reduceMul,Nat.reduceSub,Nat.reduceEqDiff,Nat.reduceLT,Nat.zero_add,Nat.add_zero,Nat.mul_one,Int.reduceToNat,Int.toNat_natCast,Int.cast_ofNat_Int,Int.reduceLE,Int.reduceLT,Int.reduceEq,reduceCtorEq,↓reduceIte,Bool.true_eq_false,Bool.false_eq_true,Bool.not_true,Bool.not_false,true_and,and_true,and_assoc,qai,sub1,qdd,qdc,qde,List.length_replicate,Nat.le_refl,forall_const,false_implies,true_implies,ne_eq,not_true_eq_false,not_false_eq_true,decide_true,decide_false,decide_eq_true_eq,decide_eq_false_iff_not,Bool.not_eq_true',Bool.not_eq_false',implies_true]
      refine⟨fun h=>?_,fun h=>?_⟩
      · try simp only[decide_eq_true_eq]at h
        refine⟨by omega,by omega,by rw[pz_len,List.length_take,hbl];omega,j+1,hK _ (by omega) (by omega),Weak.of [0,1,2,3,4,7] (by decide) (by decide) (by simp) ?_⟩
        simp only[gc,gcVs,gcV,posOf,gcH,gcB,Option.map_some,Option.map_none,List.replicate_zero,List.drop_zero,↓qav,↓qaw,↓qay,↓qax,↓qcw,↓qbh,↓qaz,↓qcp,↓qb1,↓qcm,↓qb9,↓qci,↓qcj,↓qb2,↓qch,↓qcn,↓qb3,↓qck,↓qcl,↓qb4,↓qca,↓qb8,↓qb7,↓qb6,↓qb5,↓qa3,↓qba,↓qa4,↓qbb,↓qa5,↓qbc,↓qa6,↓qbd,↓qa7,↓qbe,↓qa8,↓qbf,↓qa9,↓qbg,↓qb0,↓qco,↓qcv,↓qcs,↓qct,↓qcu,↓qcr,↓qcq,↓qbk,↓qbl,↓qby,↓qbt,↓qbo,↓qbs,↓qbx,↓qbu,↓qbw,↓qbv,↓qbp,↓qbn,↓qbz,↓qbq,↓qbr,↓qbm,↓qa0,↓qa1,↓qa2,↓qbi,↓qbj,↓qe5,↓qe4,↓qe1,↓qe2,↓qex,↓qe8,↓qe7,↓qe6,qda,↓qey,↓qez,↓qe3,↓qc7,↓qc5,↓qc6,↓qfa,↓qfb,↓qfc,↓qe9,qaa,↓qe0,↓qek,↓qel,↓qfe,↓qfd,↓qeo,↓qdn,↓qdv,↓qdx,↓qdw,↓qec,↓qed,↓qeu,↓qev,↓qdr,↓qds,↓qdu,↓qdt,↓qd0,↓qew,↓qdy,↓qeq,↓qdq,↓qei,↓qer,↓qes,↓qet,↓qd4,↓qd3,↓qd5,↓qd6,↓qd8,↓qd2,↓qd9,↓qeb,↓qea,↓qdo,↓qdp,↓qd1,↓qau,↓qdz,↓qej,↓qef,↓qdm,↓qem,↓qeg,↓qep,↓qeh,↓qen,↓qcb,↓qcc,↓qcd,↓qce,↓qcf,↓qcg,qc8,qc9,qcx,qcy,↓qee,↓qd7,qat,qas,evs,evp,mkB,repB,fill,blen,qae,qad,qac,qab,qc4,qc3,qdk,qdl,qdi,qdj,qc1,qc2,qcz,qc0,↓qdg,↓qdf,↓qdh,↓qag,↓qaf,↓qah,↓retQ,res,resAll,resOne,kill,apartOk,exp,injV,injB,pur,purs,purR,pursR,List.set_cons_zero,List.set_cons_succ,List.length_cons,List.length_nil,List.cons_append,List.nil_append,List.append_nil,List.append_assoc,List.length_append,List.reduceReplicate,Nat.reduceAdd,Nat.reduceMul,Nat.reduceSub,Nat.reduceEqDiff,Nat.reduceLT,Nat.zero_add,Nat.add_zero,Nat.mul_one,Int.reduceToNat,Int.toNat_natCast,Int.cast_ofNat_Int,Int.reduceLE,Int.reduceLT,Int.reduceEq,reduceCtorEq,↓reduceIte,Bool.true_eq_false,Bool.false_eq_true,Bool.not_true,Bool.not_false,true_and,and_true,and_assoc,qai,sub1,qdd,qdc,qde,List.length_replicate,Nat.le_refl,forall_const,false_implies,true_implies,ne_eq,not_true_eq_false,not_false_eq_true,decide_true,decide_false,decide_eq_true_eq,decide_eq_false_iff_not,Bool.not_eq_true',Bool.not_eq_false',implies_true,hb j (by omega),Nat.add_assoc,take_getI (show j<(be64 N).length by omega)]
      · try simp only[decide_eq_false_iff_not]at h
        have hj8:j=8:=by omega
        subst hj8
        have ht:(be64 N).take 8=be64 N:=List.take_of_length_le (by omega)
        have hp:padded xs n=pz xs L++be64 N:=by
          unfold padded
          rw[hZ,hL,←hN]
          push_cast
          rfl
        have hpl:(padded xs n).length=xs.length+1+L+8:=by rw[hp,List.length_append,pz_len,hbl]
        rw[ht,hpl,hbl,pz_len,←hp]
        exact⟨rfl,by omega,by omega,sub_zero hpl⟩
end Am
