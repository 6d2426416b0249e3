/-
Working texts: contracts of functions, and the numbers behind them.
-/
import Derived.Test.YtcefobjfkmfmiaaDoorAeA
import Derived.Test.YtcefobjfkmfmiaaDoorIrAeB
set_option linter.unusedSimpArgs false
set_option linter.unusedVariables false
set_option linter.unusedSectionVars false
set_option maxRecDepth 20000
namespace Am
open Go.Proofs
/-! ### The reference's products -/
def byS (a b:Int) (n:Nat) (x:Int):Int :=
  let x2:=if 255<Go.IntKind.i64.wrap (x*2)then bXor .i64 (Go.IntKind.i64.wrap (x*2)) 283 else Go.IntKind.i64.wrap (x*2)
  if bAnd .i64 (iShr .i64 b n) 1=1 then bXor .i64 x2 a else x2
def byG (a b:Int):Nat→Int→Int
  | 0,x=>x
  | n+1,x=>byG a b n (byS a b n x)
def preI2 (ds:List D):Prop:=∃x y,ds=[.v (.int .i64 x),.v (.int .i64 y)]
def F73:List D→Out
  | [.v (.int _ x),.v (.int _ y)]=>.one (.v (.int .i64 (byG x y 8 0)))
  | _=>bad
def s73:Summ:=sData [.v,.v] preI2 F73
set_option maxHeartbeats 2000000 in
theorem ok73 {g:List Blk} [Ge gl g]:SumOK Tryd.prog g 73 s73∧SumAbs s73:=by
  refine fsumA (l:=[]) mixed gl_plain rfl Tryd.func73 comp73 compR73 nt73 (by simp) fun ds ⟨a,b,hd⟩ hA=>?_
  subst hd
  simp only[ir73,rs73,gl,F73,sub_zero,qdb,qai,List.length_cons,List.length_nil,Nat.reduceAdd,Nat.le_refl,Nat.reduceLeDiff,Nat.reduceLT,true_and,and_true,↓evA,evB,evs,evp,mkB,repB,blen,↓retQ,res,resAll,resOne,kill,apartOk,exp,injV,injB,pur,purs,purR,pursR,List.reduceReplicate,Nat.reduceMul,Nat.reduceSub,Nat.reduceEqDiff,Int.reduceToNat,Int.reduceLE,Int.reduceLT,Int.reduceEq,reduceCtorEq,↓reduceIte]
  refine awp_loopA (n:=26) hA [0,1,5,6] (by decide +kernel) (fun s:Nat×Int=>[.int .i64 a,.int .i64 b,.int .i64 s.2,.int .i64 ((s.1:Int)-1)])
    (fun _=>[.ints true .u64 roots,.dead,.dead,.dead]) (fun s=>s.1≤8∧byG a b s.1 s.2=byG a b 8 0) (fun s=>s.1) (8,0) ?_ ⟨by simp,rfl⟩ ?_
  · refine Hd.same ?_
    simp only[show (8:Int)-1=7 by decide,↓evA,evB,evs,evp,mkB,repB,blen,↓retQ,res,resAll,resOne,kill,apartOk,exp,injV,injB,pur,purs,purR,pursR,List.reduceReplicate,Nat.reduceAdd,Nat.reduceMul,Nat.reduceSub,Nat.reduceEqDiff,Nat.reduceLT,Int.reduceToNat,Int.reduceLE,Int.reduceLT,Int.reduceEq,reduceCtorEq,↓reduceIte]
  rintro ⟨n,x⟩ ⟨hi,hm⟩ K hK
  simp only at hi hm hK
  cases n with
  | zero =>
    have c1:¬(0:Int)≤0-1:=by decide
    have hx:byG a b 8 0=x:=hm.symm
    simp only[c1,hx,sub_zero,qdb,qai,List.length_cons,List.length_nil,Nat.reduceAdd,Nat.le_refl,Nat.reduceLeDiff,Nat.reduceLT,true_and,and_true,↓evA,evB,evs,evp,mkB,repB,blen,↓retQ,res,resAll,resOne,kill,apartOk,exp,injV,injB,pur,purs,purR,pursR,List.reduceReplicate,Nat.reduceMul,Nat.reduceSub,Nat.reduceEqDiff,Int.reduceToNat,Int.reduceLE,Int.reduceLT,Int.reduceEq,reduceCtorEq,↓reduceIte]
    exact out_int rfl
  | succ m =>
    have e1:((m+1:Nat):Int)-1=m:=by omega
    have c1:(0:Int)≤(m:Int):=by omega
    have wi:Go.IntKind.i64.wrap ((m:Int)-1)=(m:Int)-1:=by rw[wrap_i64];omega
    have hn:((m:Int)).toNat=m:=by omega
    obtain⟨x1,hx1⟩:∃x1,Go.IntKind.i64.wrap (x*2)=x1:=⟨_,rfl⟩
    have hs:∀v,byS a b m x=v→K (m,v):=fun v hv=>hK _ ⟨by simp only;omega,by simp only;rw[←hm,byG,hv]⟩ (by simp only;omega)
    simp only[byS,hx1]at hs
    by_cases h1:255<x1<;>by_cases h2:bAnd .i64 (iShr .i64 b (m:Int)) 1=1
    all_goals
      simp only[h1,h2,if_true,if_false]at hs
      simp only[e1,c1,wi,hx1,h1,h2,sub_zero,qdb,qai,List.length_cons,List.length_nil,Nat.reduceAdd,Nat.le_refl,Nat.reduceLeDiff,Nat.reduceLT,true_and,and_true,↓evA,evB,evs,evp,mkB,repB,blen,↓retQ,res,resAll,resOne,kill,apartOk,exp,injV,injB,pur,purs,purR,pursR,List.reduceReplicate,Nat.reduceMul,Nat.reduceSub,Nat.reduceEqDiff,Int.reduceToNat,Int.reduceLE,Int.reduceLT,Int.reduceEq,reduceCtorEq,↓reduceIte]
      repeat(refine And.intro (by omega) ?_)
      refine⟨(m,_),hs _ rfl,Hd.same ?_⟩
      simp only[↓evA,evB,evs,evp,mkB,repB,blen,↓retQ,res,resAll,resOne,kill,apartOk,exp,injV,injB,pur,purs,purR,pursR,List.reduceReplicate,Nat.reduceAdd,Nat.reduceMul,Nat.reduceSub,Nat.reduceEqDiff,Nat.reduceLT,Int.reduceToNat,Int.reduceLE,Int.reduceLT,Int.reduceEq,reduceCtorEq,↓reduceIte]
end Am
set_option maxRecDepth 20000
namespace Am
open Go.Proofs
/-! ### The reference's box -/
def invR (x:Int):Nat→Int→Int
  | 0,v=>v
  | n+1,v=>invR x n (if byG x (256-((n+1:Nat):Int)) 8 0=1 then 256-((n+1:Nat):Int)else v)
def affB (v:Int) (i:Nat):Int :=
  bXor .i64 (bXor .i64 (bXor .i64 (bXor .i64 (iShr .i64 v i) (iShr .i64 v (((i:Int)+4).tmod 8))) (iShr .i64 v (((i:Int)+5).tmod 8))) (iShr .i64 v (((i:Int)+6).tmod 8))) (iShr .i64 v (((i:Int)+7).tmod 8))
def affG (v:Int):Nat→Int
  | 0=>99
  | n+1=>bXor .i64 (affG v n) (iShl .i64 (bAnd .i64 (affB v n) 1) n)
def subR (x:Int):Int:=Go.IntKind.u8.wrap (affG (if x=0 then 0 else invR (Go.IntKind.i64.wrap x) 255 0) 8)
def F70:List D→Out
  | [.v (.int _ x)]=>.one (.v (.int .u8 (subR x)))
  | _=>bad
def s70:Summ:=sData [.v] preU8 F70
set_option maxHeartbeats 2000000 in
theorem ok70 {g:List Blk} [Ge gl g]:SumOK Tryd.prog g 70 s70∧SumAbs s70:=by
  refine fsumA (l:=[(73,s73)]) mixed gl_plain rfl Tryd.func70 comp70 compR70 nt70 (by simp only[List.mem_cons,List.not_mem_nil,or_false,forall_eq];exact ok73) fun ds ⟨x,hd⟩ hA=>?_
  subst hd
  simp only[s73]
  have q2:∀a b,preI2 [.v (.int .i64 a),.v (.int .i64 b)]:=fun a b=>⟨a,b,rfl⟩
  obtain⟨X,hX⟩:∃X,Go.IntKind.i64.wrap x=X:=⟨_,rfl⟩
  simp only[ir70,rs70,gl,F70,sub_zero,qdb,qai,List.length_cons,List.length_nil,Nat.reduceAdd,Nat.le_refl,Nat.reduceLeDiff,Nat.reduceLT,true_and,and_true,↓evA,evB,evs,evp,mkB,repB,blen,↓retQ,res,resAll,resOne,kill,apartOk,exp,injV,injB,pur,purs,purR,pursR,List.reduceReplicate,Nat.reduceMul,Nat.reduceSub,Nat.reduceEqDiff,Int.reduceToNat,Int.reduceLE,Int.reduceLT,Int.reduceEq,reduceCtorEq,↓reduceIte]
  obtain⟨v0,hv0⟩:∃v0,(if x=0 then 0 else invR X 255 0)=v0:=⟨_,rfl⟩
  refine awp_loopA (n:=61) hA [0,3,4] (by decide +kernel) (fun s:Nat×Int=>[.int .u8 x,.int .i64 s.2,.int .i64 (256-(s.1:Int))])
    (fun _=>[.ints true .u64 roots,.dead,.dead,.dead]) (fun s=>s.1≤255∧(if x=0 then s.2 else invR X s.1 s.2)=v0) (fun s=>s.1) (255,0) ?_ ⟨by simp,hv0⟩ ?_
  · refine Hd.same ?_
    simp only[show (256:Int)-255=1 by decide,↓evA,evB,evs,evp,mkB,repB,blen,↓retQ,res,resAll,resOne,kill,apartOk,exp,injV,injB,pur,purs,purR,pursR,List.reduceReplicate,Nat.reduceAdd,Nat.reduceMul,Nat.reduceSub,Nat.reduceEqDiff,Nat.reduceLT,Int.reduceToNat,Int.reduceLE,Int.reduceLT,Int.reduceEq,reduceCtorEq,↓reduceIte]
  rintro ⟨n,v⟩ ⟨hi,hm⟩ K hK
  simp only at hi hm hK
  by_cases hgo:n=0∨x=0
  · -- what is found is kept: the second loop
    have hv:v=v0:=by
      rcases hgo with rfl | hx
      · rw[←hm];split<;>rfl
      · rw[if_pos hx]at hm;exact hm
    have second:True:=trivial
    by_cases h0:n=0
    · subst h0
      have c1:¬(256:Int)-0<256:=by decide
      simp only[c1,hv,sub_zero,qdb,qai,List.length_cons,List.length_nil,Nat.reduceAdd,Nat.le_refl,Nat.reduceLeDiff,Nat.reduceLT,true_and,and_true,↓evA,evB,evs,evp,mkB,repB,blen,↓retQ,res,resAll,resOne,kill,apartOk,exp,injV,injB,pur,purs,purR,pursR,List.reduceReplicate,Nat.reduceMul,Nat.reduceSub,Nat.reduceEqDiff,Int.reduceToNat,Int.reduceLE,Int.reduceLT,Int.reduceEq,reduceCtorEq,↓reduceIte]
      refine awp_loopA (n:=61) hA [3,5,6] (by decide +kernel) (fun i:Nat=>[.int .i64 v0,.int .i64 (affG v0 i),.int .i64 i])
        (fun _=>[.ints true .u64 roots,.dead,.dead,.dead]) (fun i=>i≤8) (fun i=>8-i) 0 ?_ (by omega) ?_
      · refine Hd.same ?_
        simp only[affG,↓evA,evB,evs,evp,mkB,repB,blen,↓retQ,res,resAll,resOne,kill,apartOk,exp,injV,injB,pur,purs,purR,pursR,List.reduceReplicate,Nat.reduceAdd,Nat.reduceMul,Nat.reduceSub,Nat.reduceEqDiff,Nat.reduceLT,Int.reduceToNat,Int.reduceLE,Int.reduceLT,Int.reduceEq,reduceCtorEq,↓reduceIte]
      intro i hi K2 hK2
      by_cases hlt:i<8
      · have c2:(i:Int)<8:=by omega
        have wi:Go.IntKind.i64.wrap ((i:Int)+1)=((i+1:Nat):Int):=by rw[wrap_i64];omega
        have w4:Go.IntKind.i64.wrap ((i:Int)+4)=(i:Int)+4:=by rw[wrap_i64];omega
        have w5:Go.IntKind.i64.wrap ((i:Int)+5)=(i:Int)+5:=by rw[wrap_i64];omega
        have w6:Go.IntKind.i64.wrap ((i:Int)+6)=(i:Int)+6:=by rw[wrap_i64];omega
        have w7:Go.IntKind.i64.wrap ((i:Int)+7)=(i:Int)+7:=by rw[wrap_i64];omega
        have n8:¬(8:Int)=0:=by decide
        have p4:=Int.tmod_nonneg (a:=(i:Int)+4) 8 (by omega)
        have p5:=Int.tmod_nonneg (a:=(i:Int)+5) 8 (by omega)
        have p6:=Int.tmod_nonneg (a:=(i:Int)+6) 8 (by omega)
        have p7:=Int.tmod_nonneg (a:=(i:Int)+7) 8 (by omega)
        have hj:affG v0 (i+1)=bXor .i64 (affG v0 i) (iShl .i64 (bAnd .i64 (affB v0 i) 1) i):=by rw[affG]
        rw[affB]at hj
        obtain⟨w,hw⟩:∃w,affG v0 i=w:=⟨_,rfl⟩
        rw[hw]at hj
        rw[hw]
        simp only[c2,wi,w4,w5,w6,w7,n8,p4,p5,p6,p7,sub_zero,qdb,qai,List.length_cons,List.length_nil,Nat.reduceAdd,Nat.le_refl,Nat.reduceLeDiff,Nat.reduceLT,true_and,and_true,↓evA,evB,evs,evp,mkB,repB,blen,↓retQ,res,resAll,resOne,kill,apartOk,exp,injV,injB,pur,purs,purR,pursR,List.reduceReplicate,Nat.reduceMul,Nat.reduceSub,Nat.reduceEqDiff,Int.reduceToNat,Int.reduceLE,Int.reduceLT,Int.reduceEq,reduceCtorEq,↓reduceIte]
        repeat(refine And.intro (by omega) ?_)
        refine⟨i+1,hK2 _ (by omega) (by omega),Hd.same ?_⟩
        simp only[hj,↓evA,evB,evs,evp,mkB,repB,blen,↓retQ,res,resAll,resOne,kill,apartOk,exp,injV,injB,pur,purs,purR,pursR,List.reduceReplicate,Nat.reduceAdd,Nat.reduceMul,Nat.reduceSub,Nat.reduceEqDiff,Nat.reduceLT,Int.reduceToNat,Int.reduceLE,Int.reduceLT,Int.reduceEq,reduceCtorEq,↓reduceIte]
      · obtain rfl:i=8:=by omega
        have c2:¬((8:Nat):Int)<8:=by omega
        have he:subR x=Go.IntKind.u8.wrap (affG v0 8):=by rw[subR,hX,hv0]
        simp only[c2,he,sub_zero,qdb,qai,List.length_cons,List.length_nil,Nat.reduceAdd,Nat.le_refl,Nat.reduceLeDiff,Nat.reduceLT,true_and,and_true,↓evA,evB,evs,evp,mkB,repB,blen,↓retQ,res,resAll,resOne,kill,apartOk,exp,injV,injB,pur,purs,purR,pursR,List.reduceReplicate,Nat.reduceMul,Nat.reduceSub,Nat.reduceEqDiff,Int.reduceToNat,Int.reduceLE,Int.reduceLT,Int.reduceEq,reduceCtorEq,↓reduceIte]
        exact out_int rfl
    · have c1:(256:Int)-(n:Int)<256:=by omega
      have hx:x=0:=hgo.resolve_left h0
      simp only[c1,hx,hv,sub_zero,qdb,qai,List.length_cons,List.length_nil,Nat.reduceAdd,Nat.le_refl,Nat.reduceLeDiff,Nat.reduceLT,true_and,and_true,↓evA,evB,evs,evp,mkB,repB,blen,↓retQ,res,resAll,resOne,kill,apartOk,exp,injV,injB,pur,purs,purR,pursR,List.reduceReplicate,Nat.reduceMul,Nat.reduceSub,Nat.reduceEqDiff,Int.reduceToNat,Int.reduceLE,Int.reduceLT,Int.reduceEq,reduceCtorEq,↓reduceIte]
      refine awp_loopA (n:=61) hA [3,5,6] (by decide +kernel) (fun i:Nat=>[.int .i64 v0,.int .i64 (affG v0 i),.int .i64 i])
        (fun _=>[.ints true .u64 roots,.dead,.dead,.dead]) (fun i=>i≤8) (fun i=>8-i) 0 ?_ (by omega) ?_
      · refine Hd.same ?_
        simp only[affG,↓evA,evB,evs,evp,mkB,repB,blen,↓retQ,res,resAll,resOne,kill,apartOk,exp,injV,injB,pur,purs,purR,pursR,List.reduceReplicate,Nat.reduceAdd,Nat.reduceMul,Nat.reduceSub,Nat.reduceEqDiff,Nat.reduceLT,Int.reduceToNat,Int.reduceLE,Int.reduceLT,Int.reduceEq,reduceCtorEq,↓reduceIte]
      intro i hi K2 hK2
      by_cases hlt:i<8
      · have c2:(i:Int)<8:=by omega
        have wi:Go.IntKind.i64.wrap ((i:Int)+1)=((i+1:Nat):Int):=by rw[wrap_i64];omega
        have w4:Go.IntKind.i64.wrap ((i:Int)+4)=(i:Int)+4:=by rw[wrap_i64];omega
        have w5:Go.IntKind.i64.wrap ((i:Int)+5)=(i:Int)+5:=by rw[wrap_i64];omega
        have w6:Go.IntKind.i64.wrap ((i:Int)+6)=(i:Int)+6:=by rw[wrap_i64];omega
        have w7:Go.IntKind.i64.wrap ((i:Int)+7)=(i:Int)+7:=by rw[wrap_i64];omega
        have n8:¬(8:Int)=0:=by decide
        have p4:=Int.tmod_nonneg (a:=(i:Int)+4) 8 (by omega)
        have p5:=Int.tmod_nonneg (a:=(i:Int)+5) 8 (by omega)
        have p6:=Int.tmod_nonneg (a:=(i:Int)+6) 8 (by omega)
        have p7:=Int.tmod_nonneg (a:=(i:Int)+7) 8 (by omega)
        have hj:affG v0 (i+1)=bXor .i64 (affG v0 i) (iShl .i64 (bAnd .i64 (affB v0 i) 1) i):=by rw[affG]
        rw[affB]at hj
        obtain⟨w,hw⟩:∃w,affG v0 i=w:=⟨_,rfl⟩
        rw[hw]at hj
        rw[hw]
        simp only[c2,wi,w4,w5,w6,w7,n8,p4,p5,p6,p7,sub_zero,qdb,qai,List.length_cons,List.length_nil,Nat.reduceAdd,Nat.le_refl,Nat.reduceLeDiff,Nat.reduceLT,true_and,and_true,↓evA,evB,evs,evp,mkB,repB,blen,↓retQ,res,resAll,resOne,kill,apartOk,exp,injV,injB,pur,purs,purR,pursR,List.reduceReplicate,Nat.reduceMul,Nat.reduceSub,Nat.reduceEqDiff,Int.reduceToNat,Int.reduceLE,Int.reduceLT,Int.reduceEq,reduceCtorEq,↓reduceIte]
        repeat(refine And.intro (by omega) ?_)
        refine⟨i+1,hK2 _ (by omega) (by omega),Hd.same ?_⟩
        simp only[hj,↓evA,evB,evs,evp,mkB,repB,blen,↓retQ,res,resAll,resOne,kill,apartOk,exp,injV,injB,pur,purs,purR,pursR,List.reduceReplicate,Nat.reduceAdd,Nat.reduceMul,Nat.reduceSub,Nat.reduceEqDiff,Nat.reduceLT,Int.reduceToNat,Int.reduceLE,Int.reduceLT,Int.reduceEq,reduceCtorEq,↓reduceIte]
      · obtain rfl:i=8:=by omega
        have c2:¬((8:Nat):Int)<8:=by omega
        have he:subR x=Go.IntKind.u8.wrap (affG v0 8):=by rw[subR,hX,hv0]
        simp only[c2,he,sub_zero,qdb,qai,List.length_cons,List.length_nil,Nat.reduceAdd,Nat.le_refl,Nat.reduceLeDiff,Nat.reduceLT,true_and,and_true,↓evA,evB,evs,evp,mkB,repB,blen,↓retQ,res,resAll,resOne,kill,apartOk,exp,injV,injB,pur,purs,purR,pursR,List.reduceReplicate,Nat.reduceMul,Nat.reduceSub,Nat.reduceEqDiff,Int.reduceToNat,Int.reduceLE,Int.reduceLT,Int.reduceEq,reduceCtorEq,↓reduceIte]
        exact out_int rfl
  · obtain⟨m,rfl⟩:∃m,n=m+1:=⟨n-1,by omega⟩
    have hx:¬x=0:=fun h=>hgo (.inr h)
    rw[if_neg hx]at hm
    have c1:(256:Int)-((m+1:Nat):Int)<256:=by omega
    obtain⟨I,hI⟩:∃I:Int,(256:Int)-((m+1:Nat):Int)=I:=⟨_,rfl⟩
    have wi:Go.IntKind.i64.wrap (I+1)=256-(m:Int):=by rw[wrap_i64];omega
    rw[hI]at c1
    have hs:∀u,(if byG X I 8 0=1 then I else v)=u→K (m,u):=fun u hu=>hK _ ⟨by simp only;omega,by simp only;rw[if_neg hx,←hm,invR,hI,hu]⟩ (by simp only;omega)
    by_cases h1:byG X I 8 0=1
    all_goals
      simp only[h1,if_true,if_false]at hs
      simp only[hI,c1,hx,hX,h1,wi,q2,s73,F73,sub_zero,qdb,qai,List.length_cons,List.length_nil,Nat.reduceAdd,Nat.le_refl,Nat.reduceLeDiff,Nat.reduceLT,true_and,and_true,↓evA,evB,evs,evp,mkB,repB,blen,↓retQ,res,resAll,resOne,kill,apartOk,exp,injV,injB,pur,purs,purR,pursR,List.reduceReplicate,Nat.reduceMul,Nat.reduceSub,Nat.reduceEqDiff,Int.reduceToNat,Int.reduceLE,Int.reduceLT,Int.reduceEq,reduceCtorEq,↓reduceIte]
      repeat(refine And.intro (by omega) ?_)
      refine⟨(m,_),hs _ rfl,Hd.same ?_⟩
      simp only[↓evA,evB,evs,evp,mkB,repB,blen,↓retQ,res,resAll,resOne,kill,apartOk,exp,injV,injB,pur,purs,purR,pursR,List.reduceReplicate,Nat.reduceAdd,Nat.reduceMul,Nat.reduceSub,Nat.reduceEqDiff,Nat.reduceLT,Int.reduceToNat,Int.reduceLE,Int.reduceLT,Int.reduceEq,reduceCtorEq,↓reduceIte]
end Am
set_option maxRecDepth 20000
namespace Am
open Go.Proofs
def boxL (n:Nat):List Int:=(List.range n).map fun i:Nat=>subR (i:Int)
theorem boxL_s (n:Nat):boxL n++[subR (n:Int)]=boxL (n+1):=by simp[boxL,List.range_succ]
theorem boxL_len (n:Nat):(boxL n).length=n:=by simp[boxL]
def bxV:Nat→V
  | 0=>.nils
  | n+1=>.slice 4 0 1 (n+1) (n+1)
def bxB:Nat→List Int→List Blk
  | 0,_=>[]
  | _+1,g=>[.ints false .u8 g]
theorem bxV_0:bxV 0=.nils:=by rw[bxV]
theorem bxV_s {i:Nat}:bxV (i+1)=.slice 4 0 1 (i+1) (i+1):=by rw[bxV]
theorem bxB_0 {g:List Int}:bxB 0 g=[]:=by rw[bxB]
theorem bxB_s {i:Nat} {g:List Int}:bxB (i+1) g=[.ints false .u8 g]:=by rw[bxB]
def preE (ds:List D):Prop:=ds=[]
def F54 (_:List D):Out:=.one (.s .u8 (boxL 256))
def s54:Summ:=sData [] preE F54
set_option maxHeartbeats 2000000 in
theorem ok54 {g:List Blk} [Ge gl g]:SumOK Tryd.prog g 54 s54∧SumAbs s54:=by
  refine fsumA (l:=[(70,s70)]) mixed gl_plain rfl Tryd.func54 comp54 compR54 nt54 (by simp only[List.mem_cons,List.not_mem_nil,or_false,forall_eq];exact ok70) fun ds hd hA=>?_
  rw[hd]
  simp only[s70]
  have q:∀a,preU8 [.v (.int .u8 a)]:=fun a=>⟨a,rfl⟩
  simp only[ir54,rs54,gl,F54,sub_zero,qdb,qai,List.length_cons,List.length_nil,Nat.reduceAdd,Nat.le_refl,Nat.reduceLeDiff,Nat.reduceLT,true_and,and_true,↓evA,evB,evs,evp,mkB,repB,blen,↓retQ,res,resAll,resOne,kill,apartOk,exp,injV,injB,pur,purs,purR,pursR,List.reduceReplicate,Nat.reduceMul,Nat.reduceSub,Nat.reduceEqDiff,Int.reduceToNat,Int.reduceLE,Int.reduceLT,Int.reduceEq,reduceCtorEq,↓reduceIte]
  refine awp_loopA (n:=14) hA [1,2] (by decide +kernel) (fun i:Nat=>[bxV i,.int .i64 i])
    (fun i=>[.ints true .u64 roots,.dead,.dead,.dead]++bxB i (boxL i)) (fun i=>i≤256) (fun i=>256-i) 0 ?_ (by omega) ?_
  · refine Hd.same ?_
    simp only[bxV_0,bxB_0,↓evA,evB,evs,evp,mkB,repB,blen,↓retQ,res,resAll,resOne,kill,apartOk,exp,injV,injB,pur,purs,purR,pursR,List.reduceReplicate,Nat.reduceAdd,Nat.reduceMul,Nat.reduceSub,Nat.reduceEqDiff,Nat.reduceLT,Int.reduceToNat,Int.reduceLE,Int.reduceLT,Int.reduceEq,reduceCtorEq,↓reduceIte]
  intro i hi K hK
  by_cases hlt:i<256
  · have c1:(i:Int)<256:=by omega
    have wi:Go.IntKind.i64.wrap ((i:Int)+1)=((i+1:Nat):Int):=by rw[wrap_i64];omega
    have w8:Go.IntKind.u8.wrap (i:Int)=i:=by rw[wrap_u8];omega
    cases i with
    | zero =>
      have hb:[subR ((0:Nat):Int)]=boxL (0+1):=by rw[←boxL_s 0];rfl
      obtain⟨z,hz⟩:∃z,subR ((0:Nat):Int)=z:=⟨_,rfl⟩
      have hz':subR 0=z:=hz
      have w80:Go.IntKind.u8.wrap 0=0:=by decide
      rw[hz]at hb
      simp only[c1,wi,w8,w80,q,hz,hz',bxV_0,bxB_0,s70,F70,sub_zero,qdb,qai,List.length_cons,List.length_nil,Nat.reduceAdd,Nat.le_refl,Nat.reduceLeDiff,Nat.reduceLT,true_and,and_true,↓evA,evB,evs,evp,mkB,repB,blen,↓retQ,res,resAll,resOne,kill,apartOk,exp,injV,injB,pur,purs,purR,pursR,List.reduceReplicate,Nat.reduceMul,Nat.reduceSub,Nat.reduceEqDiff,Int.reduceToNat,Int.reduceLE,Int.reduceLT,Int.reduceEq,reduceCtorEq,↓reduceIte]
      repeat(refine And.intro (by omega) ?_)
      refine⟨1,hK _ (by omega) (by omega),Hd.of [0,1,2,3,5] (by decide) (by decide) (by simp) ?_⟩
      simp only[show bxV 1=.slice 4 0 1 1 1 from bxV_s,show ∀g,bxB 1 g=[.ints false .u8 g]from fun g=>bxB_s,show Go.IntKind.i64.wrap (0+1)=1 by decide,←show [z]=boxL 1 from hb,gc,gcVs,gcV,posOf,gcH,gcB,Option.map_some,Option.map_none,List.replicate_zero,List.drop_zero,↓evA,evB,evs,evp,mkB,repB,blen,↓retQ,res,resAll,resOne,kill,apartOk,exp,injV,injB,pur,purs,purR,pursR,List.reduceReplicate,Nat.reduceAdd,Nat.reduceMul,Nat.reduceSub,Nat.reduceEqDiff,Nat.reduceLT,Int.reduceToNat,Int.reduceLE,Int.reduceLT,Int.reduceEq,reduceCtorEq,↓reduceIte]
    | succ j =>
      have hb:=boxL_s (j+1)
      have hl:=boxL_len (j+1)
      obtain⟨z,hz⟩:∃z,subR ((j+1:Nat):Int)=z:=⟨_,rfl⟩
      obtain⟨w,hw⟩:∃w,boxL (j+1)=w:=⟨_,rfl⟩
      rw[hz,hw]at hb
      rw[hw]at hl
      have sw:sub w 0 (j+1)=w:=sub_zero (by omega)
      simp only[c1,wi,w8,q,hz,hw,hl,sw,bxV_s,bxB_s,s70,F70,sub_zero,qdb,qai,List.length_cons,List.length_nil,Nat.reduceAdd,Nat.le_refl,Nat.reduceLeDiff,Nat.reduceLT,true_and,and_true,↓evA,evB,evs,evp,mkB,repB,blen,↓retQ,res,resAll,resOne,kill,apartOk,exp,injV,injB,pur,purs,purR,pursR,List.reduceReplicate,Nat.reduceMul,Nat.reduceSub,Nat.reduceEqDiff,Int.reduceToNat,Int.reduceLE,Int.reduceLT,Int.reduceEq,reduceCtorEq,↓reduceIte]
      repeat(refine And.intro (by omega) ?_)
      refine⟨j+1+1,hK _ (by omega) (by omega),Hd.of [0,1,2,3,6] (by decide) (by decide) (by simp) ?_⟩
      simp only[bxV_s,bxB_s,←hb,gc,gcVs,gcV,posOf,gcH,gcB,Option.map_some,Option.map_none,List.replicate_zero,List.drop_zero,↓evA,evB,evs,evp,mkB,repB,blen,↓retQ,res,resAll,resOne,kill,apartOk,exp,injV,injB,pur,purs,purR,pursR,List.reduceReplicate,Nat.reduceAdd,Nat.reduceMul,Nat.reduceSub,Nat.reduceEqDiff,Nat.reduceLT,Int.reduceToNat,Int.reduceLE,Int.reduceLT,Int.reduceEq,reduceCtorEq,↓reduceIte]
  · obtain rfl:i=256:=by omega
    have c1:¬((256:Nat):Int)<256:=by omega
    have e1:bxV 256=.slice 4 0 1 256 256:=bxV_s
    have e2:∀g,bxB 256 g=[.ints false .u8 g]:=fun g=>bxB_s
    have hl:=boxL_len 256
    obtain⟨w,hw⟩:∃w,boxL 256=w:=⟨_,rfl⟩
    rw[hw]at hl
    have sw:sub w 0 256=w:=sub_zero (by omega)
    simp only[c1,e1,e2,hw,hl,sw,out,outs,out1,List.not_mem_nil,sub_zero,qdb,qai,List.length_cons,List.length_nil,Nat.reduceAdd,Nat.le_refl,Nat.reduceLeDiff,Nat.reduceLT,true_and,and_true,↓evA,evB,evs,evp,mkB,repB,blen,↓retQ,res,resAll,resOne,kill,apartOk,exp,injV,injB,pur,purs,purR,pursR,List.reduceReplicate,Nat.reduceMul,Nat.reduceSub,Nat.reduceEqDiff,Int.reduceToNat,Int.reduceLE,Int.reduceLT,Int.reduceEq,reduceCtorEq,↓reduceIte]
end Am
