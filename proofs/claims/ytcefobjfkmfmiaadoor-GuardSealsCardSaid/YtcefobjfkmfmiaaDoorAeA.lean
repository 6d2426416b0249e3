/-
Working texts: contracts of functions, and the numbers behind them.
-/
import Derived.Test.YtcefobjfkmfmiaaDoorBase
import Derived.Test.YtcefobjfkmfmiaaDoorIrAeA
set_option linter.unusedSimpArgs false
set_option linter.unusedVariables false
set_option linter.unusedSectionVars false
set_option maxRecDepth 20000
namespace Am
open Go.Proofs
/-! ### Bytes as polynomials -/
def twi (x:Int):Int:=bXor .u8 (iShl .u8 x 1) (bAnd .u8 27 (Go.IntKind.u8.wrap (0-iShr .u8 x 7)))
def preU8 (ds:List D):Prop:=∃x,ds=[.v (.int .u8 x)]
def F76:List D→Out
  | [.v (.int _ x)]=>.one (.v (.int .u8 (twi x)))
  | _=>bad
def s76:Summ:=sData [.v] preU8 F76
theorem ok76 {g:List Blk} [Ge gl g]:SumOK Tryd.prog g 76 s76∧SumAbs s76:=by
  refine fsumA (l:=[]) mixed gl_plain rfl Tryd.func76 comp76 compR76 nt76 (by simp) fun ds ⟨x,hd⟩ hA=>?_
  subst hd
  simp only[ir76,rs76,gl,F76,twi,sub_zero,qdb,qai,List.length_cons,List.length_nil,Nat.reduceAdd,Nat.le_refl,Nat.reduceLeDiff,Nat.reduceLT,true_and,and_true,↓evA,evB,evs,evp,mkB,repB,blen,↓retQ,res,resAll,resOne,kill,apartOk,exp,injV,injB,pur,purs,purR,pursR,List.reduceReplicate,Nat.reduceMul,Nat.reduceSub,Nat.reduceEqDiff,Int.reduceToNat,Int.reduceLE,Int.reduceLT,Int.reduceEq,reduceCtorEq,↓reduceIte]
  exact out_int rfl
/-- So many rounds of a product: what is added up, the two factors as they stand. -/
def mulG:Nat→Int→Int→Int→Int
  | 0,_,_,p=>p
  | n+1,a,b,p=>mulG n (twi a) (iShr .u8 b 1) (bXor .u8 p (bAnd .u8 a (Go.IntKind.u8.wrap (0-bAnd .u8 b 1))))
def preU82 (ds:List D):Prop:=∃x y,ds=[.v (.int .u8 x),.v (.int .u8 y)]
def F81:List D→Out
  | [.v (.int _ x),.v (.int _ y)]=>.one (.v (.int .u8 (mulG 8 x y 0)))
  | _=>bad
def s81:Summ:=sData [.v,.v] preU82 F81
theorem ok81 {g:List Blk} [Ge gl g]:SumOK Tryd.prog g 81 s81∧SumAbs s81:=by
  refine fsumA (l:=[(76,s76)]) mixed gl_plain rfl Tryd.func81 comp81 compR81 nt81 (by simp only[List.mem_cons,List.not_mem_nil,or_false,forall_eq];exact ok76) fun ds ⟨x,y,hd⟩ hA=>?_
  subst hd
  simp only[s76]
  simp only[ir81,rs81,gl,F81,sub_zero,qdb,qai,List.length_cons,List.length_nil,Nat.reduceAdd,Nat.le_refl,Nat.reduceLeDiff,Nat.reduceLT,true_and,and_true,↓evA,evB,evs,evp,mkB,repB,blen,↓retQ,res,resAll,resOne,kill,apartOk,exp,injV,injB,pur,purs,purR,pursR,List.reduceReplicate,Nat.reduceMul,Nat.reduceSub,Nat.reduceEqDiff,Int.reduceToNat,Int.reduceLE,Int.reduceLT,Int.reduceEq,reduceCtorEq,↓reduceIte]
  refine awp_loopA (n:=21) hA [0,1,5,6] (by decide +kernel) (fun s:Nat×Int×Int×Int=>[.int .u8 s.2.1,.int .u8 s.2.2.1,.int .u8 s.2.2.2,.int .i64 s.1])
    (fun _=>[.ints true .u64 roots,.dead,.dead,.dead]) (fun s=>s.1≤8∧mulG (8-s.1) s.2.1 s.2.2.1 s.2.2.2=mulG 8 x y 0) (fun s=>8-s.1) (0,x,y,0) ?_ ⟨by simp,rfl⟩ ?_
  · refine Hd.same ?_
    simp only[↓evA,evB,evs,evp,mkB,repB,blen,↓retQ,res,resAll,resOne,kill,apartOk,exp,injV,injB,pur,purs,purR,pursR,List.reduceReplicate,Nat.reduceAdd,Nat.reduceMul,Nat.reduceSub,Nat.reduceEqDiff,Nat.reduceLT,Int.reduceToNat,Int.reduceLE,Int.reduceLT,Int.reduceEq,reduceCtorEq,↓reduceIte]
  rintro ⟨i,a,b,p⟩ ⟨hi,hm⟩ K hK
  simp only at hi hm hK
  have q:preU8 [.v (.int .u8 a)]:=⟨a,rfl⟩
  by_cases hlt:i<8
  · have c1:(i:Int)<8:=by omega
    have wi:Go.IntKind.i64.wrap ((i:Int)+1)=((i+1:Nat):Int):=by rw[wrap_i64];omega
    simp only[c1,wi,q,s76,F76,sub_zero,qdb,qai,List.length_cons,List.length_nil,Nat.reduceAdd,Nat.le_refl,Nat.reduceLeDiff,Nat.reduceLT,true_and,and_true,↓evA,evB,evs,evp,mkB,repB,blen,↓retQ,res,resAll,resOne,kill,apartOk,exp,injV,injB,pur,purs,purR,pursR,List.reduceReplicate,Nat.reduceMul,Nat.reduceSub,Nat.reduceEqDiff,Int.reduceToNat,Int.reduceLE,Int.reduceLT,Int.reduceEq,reduceCtorEq,↓reduceIte]
    refine⟨(i+1,twi a,iShr .u8 b 1,bXor .u8 p (bAnd .u8 a (Go.IntKind.u8.wrap (0-bAnd .u8 b 1)))),hK _ ⟨by simp only;omega,?_⟩ (by simp only;omega),Hd.same ?_⟩
    · simp only
      rw[←hm,show 8-i=(8-(i+1))+1 by omega,mulG]
    · simp only[↓evA,evB,evs,evp,mkB,repB,blen,↓retQ,res,resAll,resOne,kill,apartOk,exp,injV,injB,pur,purs,purR,pursR,List.reduceReplicate,Nat.reduceAdd,Nat.reduceMul,Nat.reduceSub,Nat.reduceEqDiff,Nat.reduceLT,Int.reduceToNat,Int.reduceLE,Int.reduceLT,Int.reduceEq,reduceCtorEq,↓reduceIte]
  · obtain rfl:i=8:=by omega
    have c1:¬((8:Nat):Int)<8:=by omega
    simp only[c1,sub_zero,qdb,qai,List.length_cons,List.length_nil,Nat.reduceAdd,Nat.le_refl,Nat.reduceLeDiff,Nat.reduceLT,true_and,and_true,↓evA,evB,evs,evp,mkB,repB,blen,↓retQ,res,resAll,resOne,kill,apartOk,exp,injV,injB,pur,purs,purR,pursR,List.reduceReplicate,Nat.reduceMul,Nat.reduceSub,Nat.reduceEqDiff,Int.reduceToNat,Int.reduceLE,Int.reduceLT,Int.reduceEq,reduceCtorEq,↓reduceIte]
    exact out_int (by rw[←hm];rfl)
/-! ### A byte turned, and put through the box -/
def rl8 (x s:Int):Int:=bOr .u8 (iShl .u8 x (bAnd .u64 (Go.IntKind.u64.wrap s) 7)) (iShr .u8 x (Go.IntKind.u64.wrap (8-bAnd .u64 (Go.IntKind.u64.wrap s) 7)))
theorem bAnd_nn64 (a b:Int):0≤bAnd .u64 a b:=by unfold bAnd;rw[wrap_u64];omega
def preRL8 (ds:List D):Prop:=∃x s,ds=[.v (.int .u8 x),.v (.int .i64 s)]
def F82:List D→Out
  | [.v (.int _ x),.v (.int _ s)]=>.one (.v (.int .u8 (rl8 x s)))
  | _=>bad
def s82:Summ:=sData [.v,.v] preRL8 F82
theorem ok82 {g:List Blk} [Ge gl g]:SumOK Tryd.prog g 82 s82∧SumAbs s82:=by
  refine fsumA (l:=[]) mixed gl_plain rfl Tryd.func82 comp82 compR82 nt82 (by simp) fun ds ⟨x,s,hd⟩ hA=>?_
  subst hd
  simp only[ir82,rs82,gl,F82,sub_zero,qdb,qai,List.length_cons,List.length_nil,Nat.reduceAdd,Nat.le_refl,Nat.reduceLeDiff,Nat.reduceLT,true_and,and_true,↓evA,evB,evs,evp,mkB,repB,blen,↓retQ,res,resAll,resOne,kill,apartOk,exp,injV,injB,pur,purs,purR,pursR,List.reduceReplicate,Nat.reduceMul,Nat.reduceSub,Nat.reduceEqDiff,Int.reduceToNat,Int.reduceLE,Int.reduceLT,Int.reduceEq,reduceCtorEq,↓reduceIte]
  refine⟨bAnd_nn64 _ _,by rw[wrap_u64];omega,out_int rfl⟩
/-- So many squares, and the product of all of them. -/
def invG:Nat→Int→Int→Int
  | 0,_,r=>r
  | n+1,p,r=>invG n (mulG 8 p p 0) (mulG 8 r (mulG 8 p p 0) 0)
def subE (x:Int):Int :=
  let y:=invG 6 (mulG 8 x x 0) (mulG 8 x x 0)
  bXor .u8 (bXor .u8 (bXor .u8 (bXor .u8 (bXor .u8 y (rl8 y 1)) (rl8 y 2)) (rl8 y 3)) (rl8 y 4)) 99
def F75:List D→Out
  | [.v (.int _ x)]=>.one (.v (.int .u8 (subE x)))
  | _=>bad
def s75:Summ:=sData [.v] preU8 F75
set_option maxHeartbeats 2000000 in
theorem ok75 {g:List Blk} [Ge gl g]:SumOK Tryd.prog g 75 s75∧SumAbs s75:=by
  refine fsumA (l:=[(81,s81),(82,s82)]) mixed gl_plain rfl Tryd.func75 comp75 compR75 nt75 (by simp only[List.mem_cons,List.not_mem_nil,or_false,forall_eq_or_imp,forall_eq];exact⟨ok81,ok82⟩) fun ds ⟨x,hd⟩ hA=>?_
  subst hd
  have q2:∀a b,preU82 [.v (.int .u8 a),.v (.int .u8 b)]:=fun a b=>⟨a,b,rfl⟩
  have q3:∀a b,preRL8 [.v (.int .u8 a),.v (.int .i64 b)]:=fun a b=>⟨a,b,rfl⟩
  simp only[s81,s82]
  obtain⟨z,hz⟩:∃z,mulG 8 x x 0=z:=⟨_,rfl⟩
  simp only[ir75,rs75,gl,F75,F81,q2,hz,sub_zero,qdb,qai,List.length_cons,List.length_nil,Nat.reduceAdd,Nat.le_refl,Nat.reduceLeDiff,Nat.reduceLT,true_and,and_true,↓evA,evB,evs,evp,mkB,repB,blen,↓retQ,res,resAll,resOne,kill,apartOk,exp,injV,injB,pur,purs,purR,pursR,List.reduceReplicate,Nat.reduceMul,Nat.reduceSub,Nat.reduceEqDiff,Int.reduceToNat,Int.reduceLE,Int.reduceLT,Int.reduceEq,reduceCtorEq,↓reduceIte]
  refine awp_loopA (n:=32) hA [3,4,9] (by decide +kernel) (fun s:Nat×Int×Int=>[.int .u8 s.2.1,.int .u8 s.2.2,.int .i64 s.1])
    (fun _=>[.ints true .u64 roots,.dead,.dead,.dead]) (fun s=>s.1≤6∧invG (6-s.1) s.2.1 s.2.2=invG 6 z z) (fun s=>6-s.1) (0,z,z) ?_ ⟨by simp,rfl⟩ ?_
  · refine Hd.same ?_
    simp only[↓evA,evB,evs,evp,mkB,repB,blen,↓retQ,res,resAll,resOne,kill,apartOk,exp,injV,injB,pur,purs,purR,pursR,List.reduceReplicate,Nat.reduceAdd,Nat.reduceMul,Nat.reduceSub,Nat.reduceEqDiff,Nat.reduceLT,Int.reduceToNat,Int.reduceLE,Int.reduceLT,Int.reduceEq,reduceCtorEq,↓reduceIte]
  rintro ⟨i,p,r⟩ ⟨hi,hm⟩ K hK
  simp only at hi hm hK
  by_cases hlt:i<6
  · have c1:(i:Int)<6:=by omega
    have wi:Go.IntKind.i64.wrap ((i:Int)+1)=((i+1:Nat):Int):=by rw[wrap_i64];omega
    obtain⟨p2,hp2⟩:∃p2,mulG 8 p p 0=p2:=⟨_,rfl⟩
    obtain⟨r2,hr2⟩:∃r2,mulG 8 r p2 0=r2:=⟨_,rfl⟩
    simp only[c1,wi,q2,hp2,hr2,s81,F81,sub_zero,qdb,qai,List.length_cons,List.length_nil,Nat.reduceAdd,Nat.le_refl,Nat.reduceLeDiff,Nat.reduceLT,true_and,and_true,↓evA,evB,evs,evp,mkB,repB,blen,↓retQ,res,resAll,resOne,kill,apartOk,exp,injV,injB,pur,purs,purR,pursR,List.reduceReplicate,Nat.reduceMul,Nat.reduceSub,Nat.reduceEqDiff,Int.reduceToNat,Int.reduceLE,Int.reduceLT,Int.reduceEq,reduceCtorEq,↓reduceIte]
    refine⟨(i+1,p2,r2),hK _ ⟨by simp only;omega,?_⟩ (by simp only;omega),Hd.same ?_⟩
    · simp only
      rw[←hm,show 6-i=(6-(i+1))+1 by omega,invG,hp2,hr2]
    · simp only[↓evA,evB,evs,evp,mkB,repB,blen,↓retQ,res,resAll,resOne,kill,apartOk,exp,injV,injB,pur,purs,purR,pursR,List.reduceReplicate,Nat.reduceAdd,Nat.reduceMul,Nat.reduceSub,Nat.reduceEqDiff,Nat.reduceLT,Int.reduceToNat,Int.reduceLE,Int.reduceLT,Int.reduceEq,reduceCtorEq,↓reduceIte]
  · obtain rfl:i=6:=by omega
    have c1:¬((6:Nat):Int)<6:=by omega
    have hy:r=invG 6 z z:=by rw[←hm];rfl
    simp only[c1,q3,s82,F82,sub_zero,qdb,qai,List.length_cons,List.length_nil,Nat.reduceAdd,Nat.le_refl,Nat.reduceLeDiff,Nat.reduceLT,true_and,and_true,↓evA,evB,evs,evp,mkB,repB,blen,↓retQ,res,resAll,resOne,kill,apartOk,exp,injV,injB,pur,purs,purR,pursR,List.reduceReplicate,Nat.reduceMul,Nat.reduceSub,Nat.reduceEqDiff,Int.reduceToNat,Int.reduceLE,Int.reduceLT,Int.reduceEq,reduceCtorEq,↓reduceIte]
    exact out_int (by rw[subE,hz,←hy])
end Am
set_option maxRecDepth 20000
namespace Am
open Go.Proofs
/-! ### Two blocks joined -/
def jn (a b:List Int):Nat→List Int
  | 0=>a
  | n+1=>(jn a b n).set n (bXor .u8 (getI (jn a b n) n) (getI b n))
theorem jn_len {a b:List Int}:∀n,(jn a b n).length=a.length
  | 0=>rfl
  | n+1=>by rw[jn,List.length_set,jn_len n]
def preJ (ds:List D):Prop:=∃a b:List Int,ds=[.v (.ints .u8 a),.v (.ints .u8 b)]∧a.length=16∧b.length=16
def F86:List D→Out
  | [.v (.ints _ a),.v (.ints _ b)]=>.one (.v (.ints .u8 (jn a b 16)))
  | _=>bad
def s86:Summ:=sData [.v,.v] preJ F86
theorem ok86 {g:List Blk} [Ge gl g]:SumOK Tryd.prog g 86 s86∧SumAbs s86:=by
  refine fsumA (l:=[]) mixed gl_plain rfl Tryd.func86 comp86 compR86 nt86 (by simp) fun ds ⟨a,b,hd,ha,hb⟩ hA=>?_
  subst hd
  simp only[ir86,rs86,gl,F86,ha,hb,sub_zero,qdb,qai,List.length_cons,List.length_nil,Nat.reduceAdd,Nat.le_refl,Nat.reduceLeDiff,Nat.reduceLT,true_and,and_true,↓evA,evB,evs,evp,mkB,repB,blen,↓retQ,res,resAll,resOne,kill,apartOk,exp,injV,injB,pur,purs,purR,pursR,List.reduceReplicate,Nat.reduceMul,Nat.reduceSub,Nat.reduceEqDiff,Int.reduceToNat,Int.reduceLE,Int.reduceLT,Int.reduceEq,reduceCtorEq,↓reduceIte]
  refine awp_loopA (n:=19) hA [2,3,4,6] (by decide +kernel) (fun i:Nat=>[.ptr 4 0,.ptr 5 0,.ptr 6 0,.int .i64 i])
    (fun i=>[.ints true .u64 roots,.dead,.dead,.dead,.ints false .u8 (jn a b i),.ints false .u8 b,.ints false .u8 (List.replicate 16 0)]) (fun i=>i≤16) (fun i=>16-i) 0 ?_ (by omega) ?_
  · refine Hd.same ?_
    simp only[jn,↓evA,evB,evs,evp,mkB,repB,blen,↓retQ,res,resAll,resOne,kill,apartOk,exp,injV,injB,pur,purs,purR,pursR,List.reduceReplicate,Nat.reduceAdd,Nat.reduceMul,Nat.reduceSub,Nat.reduceEqDiff,Nat.reduceLT,Int.reduceToNat,Int.reduceLE,Int.reduceLT,Int.reduceEq,reduceCtorEq,↓reduceIte]
  intro i hi K hK
  have hl:=jn_len (a:=a) (b:=b) i
  by_cases hlt:i<16
  · have c1:(i:Int)<16:=by omega
    have wi:Go.IntKind.i64.wrap ((i:Int)+1)=((i+1:Nat):Int):=by rw[wrap_i64];omega
    have hj:jn a b (i+1)=(jn a b i).set i (bXor .u8 (getI (jn a b i) i) (getI b i)):=by rw[jn]
    obtain⟨w,hw⟩:∃w,jn a b i=w:=⟨_,rfl⟩
    rw[hw]at hl hj
    rw[hw]
    simp only[c1,wi,hl,hb,ha,sub_zero,qdb,qai,List.length_cons,List.length_nil,Nat.reduceAdd,Nat.le_refl,Nat.reduceLeDiff,Nat.reduceLT,true_and,and_true,↓evA,evB,evs,evp,mkB,repB,blen,↓retQ,res,resAll,resOne,kill,apartOk,exp,injV,injB,pur,purs,purR,pursR,List.reduceReplicate,Nat.reduceMul,Nat.reduceSub,Nat.reduceEqDiff,Int.reduceToNat,Int.reduceLE,Int.reduceLT,Int.reduceEq,reduceCtorEq,↓reduceIte]
    repeat(refine And.intro (by omega) ?_)
    refine⟨i+1,hK _ (by omega) (by omega),Hd.same ?_⟩
    simp only[hj,↓evA,evB,evs,evp,mkB,repB,blen,↓retQ,res,resAll,resOne,kill,apartOk,exp,injV,injB,pur,purs,purR,pursR,List.reduceReplicate,Nat.reduceAdd,Nat.reduceMul,Nat.reduceSub,Nat.reduceEqDiff,Nat.reduceLT,Int.reduceToNat,Int.reduceLE,Int.reduceLT,Int.reduceEq,reduceCtorEq,↓reduceIte]
  · obtain rfl:i=16:=by omega
    have c1:¬((16:Nat):Int)<16:=by omega
    obtain⟨w,hw⟩:∃w,jn a b 16=w:=⟨_,rfl⟩
    rw[hw]at hl
    rw[hw]
    have sw:sub w 0 16=w:=sub_zero (by omega)
    simp only[c1,hl,ha,hb,sw,sub_zero,qdb,qai,List.length_cons,List.length_nil,Nat.reduceAdd,Nat.le_refl,Nat.reduceLeDiff,Nat.reduceLT,true_and,and_true,↓evA,evB,evs,evp,mkB,repB,blen,↓retQ,res,resAll,resOne,kill,apartOk,exp,injV,injB,pur,purs,purR,pursR,List.reduceReplicate,Nat.reduceMul,Nat.reduceSub,Nat.reduceEqDiff,Int.reduceToNat,Int.reduceLE,Int.reduceLT,Int.reduceEq,reduceCtorEq,↓reduceIte]
    repeat(refine And.intro (by omega) ?_)
    simp only[out,outs,out1,pur,and_self]
end Am
