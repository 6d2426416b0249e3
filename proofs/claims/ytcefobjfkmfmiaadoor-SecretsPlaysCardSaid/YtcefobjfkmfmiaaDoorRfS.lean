/-
Working texts: contracts of functions, and the numbers behind them.
-/
import Derived.Test.YtcefobjfkmfmiaaDoorShG
import Derived.Test.YtcefobjfkmfmiaaDoorIrD
set_option linter.unusedSimpArgs false
set_option linter.unusedVariables false
set_option linter.unusedSectionVars false
set_option maxRecDepth 20000
namespace Am
open Go.Proofs
def pre65 (ds:List D):Prop:=∃x,ds=[.v (.int .u64 x),.v (.int .i64 32)]
def F65:List D→Out
  | [.v (.int _ x),.v (.int _ _)]=>.one (.v (.int .u64 (cutr x)))
  | _=>bad
def s65:Summ:=sData [.v,.v] pre65 F65
theorem ok65 {g:List Blk} [Ge gl g]:SumOK Tryd.prog g 65 s65∧SumAbs s65:=by
  refine fsumA (l:=[]) mixed gl_plain rfl Tryd.func65 comp65 compR65 nt65 (by simp) fun ds ⟨x,hd⟩ hA=>?_
  subst hd
  simp only[ir65,rs65,gl,F65,sub_zero,qdb,qai,List.length_cons,List.length_nil,Nat.reduceAdd,Nat.le_refl,Nat.reduceLeDiff,Nat.reduceLT,true_and,and_true,↓evA,evB,evs,evp,mkB,repB,blen,↓retQ,res,resAll,resOne,kill,apartOk,exp,injV,injB,pur,purs,purR,pursR,List.reduceReplicate,Nat.reduceMul,Nat.reduceSub,Nat.reduceEqDiff,Int.reduceToNat,Int.reduceLE,Int.reduceLT,Int.reduceEq,reduceCtorEq,↓reduceIte]
  exact out_int rfl
def pre64 (ds:List D):Prop:=∃(x:Int) (n:Int),ds=[.v (.int .u64 x),.v (.int .i64 n),.v (.int .i64 32)]∧0≤n∧n≤32
def F64:List D→Out
  | [.v (.int _ x),.v (.int _ n),.v (.int _ _)]=>.one (.v (.int .u64 (trn x n)))
  | _=>bad
def s64:Summ:=sData [.v,.v,.v] pre64 F64
theorem ok64 {g:List Blk} [Ge gl g]:SumOK Tryd.prog g 64 s64∧SumAbs s64:=by
  refine fsumA (l:=[(65,s65)]) mixed gl_plain rfl Tryd.func64 comp64 compR64 nt64 (by simp only[List.mem_cons,List.not_mem_nil,or_false,forall_eq];exact ok65) fun ds ⟨x,n,hd,h0,h1⟩ hA=>?_
  subst hd
  simp only[s65]
  have q:∀x:Int,pre65 [.v (.int .u64 x),.v (.int .i64 32)]:=fun x=>⟨x,rfl⟩
  simp only[ir64,rs64,gl,F64,q,s65,F65,sub_zero,qdb,qai,List.length_cons,List.length_nil,Nat.reduceAdd,Nat.le_refl,Nat.reduceLeDiff,Nat.reduceLT,true_and,and_true,↓evA,evB,evs,evp,mkB,repB,blen,↓retQ,res,resAll,resOne,kill,apartOk,exp,injV,injB,pur,purs,purR,pursR,List.reduceReplicate,Nat.reduceMul,Nat.reduceSub,Nat.reduceEqDiff,Int.reduceToNat,Int.reduceLE,Int.reduceLT,Int.reduceEq,reduceCtorEq,↓reduceIte]
  exact⟨h0,by rw[wrap_i64];omega,out_int rfl⟩
/-- The words' turns, as the document has them. -/
def rr:List Int:=[7,18,3,17,19,10,6,11,25,2,13,22]
def ap (b n:Nat):V:=sl1 b n n
def apB (k:Go.IntKind):List Int→List Blk
  | []=>[]
  | x::r=>[.ints false k (x::r)]
theorem apB_pos {k:Go.IntKind} {xs:List Int} (h:0<xs.length):apB k xs=[.ints false k xs]:=by
  cases xs with
  | nil=>simp at h
  | cons x r=>rw[apB]
theorem apB_nil {k:Go.IntKind}:apB k []=[]:=by rw[apB]
theorem ap_0 {b:Nat}:ap b 0=.nils:=by rw[ap,sl1]
theorem ap_s {b n:Nat}:ap b (n+1)=.slice b 0 1 (n+1) (n+1):=by rw[ap,sl1]
def pre44 (ds:List D):Prop:=∃b,ds=[.s .u8 b,.v (.int .i64 32),.s .i64 rr]∧Dig 256 b∧b.length≤1099511627776
def F44:List D→Out
  | [.s _ b,.v _,.s _ _]=>.one (.s .u8 (sum256 (padded b 64)))
  | _=>bad
def s44:Summ:=sData [.s .u8,.v,.s .i64] pre44 F44
theorem out_sl {m b o n cap:Nat} {k:Go.IntKind} {xs ys:List Int} {hp:List Blk} (hb:nthB hp b=.ints false k ys) (hm:m≤b) (hn:o+n≤ys.length) (hx:sub ys o n=xs):out m (.one (.s k xs)) (.slice b o 1 n cap) hp:=by
  simp[out,outs,out1,hb,hm,hn,hx]
set_option maxHeartbeats 4000000 in
theorem ok44 {g:List Blk} [Ge gl1 g]:SumOK Tryd.prog g 44 s44∧SumAbs s44:=by
  refine fsumA (l:=[(64,s64),(65,s65)]) mixed gl1_plain rfl Tryd.func44 comp44 compR44 nt44 (by simp only[List.mem_cons,List.not_mem_nil,or_false,forall_eq_or_imp,forall_eq];exact⟨ok64,ok65⟩) fun ds ⟨b,hd,hb,hbl⟩ hA=>?_
  subst hd
  simp only[s64,s65]
  have hrr:rr.length=12:=rfl
  have hrl:roots.length=80:=rfl
  have hsl:seconds.length=8:=rfl
  have hrs:sub rr 0 12=rr:=rfl
  have hbs:sub b 0 b.length=b:=sub_zero rfl
  have k1:Go.IntKind.i64.wrap ((32:Int).tdiv 8)=4:=by decide
  have k2:Go.IntKind.i64.wrap (64-32:Int)=32:=by decide
  have k3:Go.IntKind.i64.wrap (16*4:Int)=64:=by decide
  have k4:Go.IntKind.i64.wrap (14*4:Int)=56:=by decide
  have k5:Go.IntKind.i64.wrap (2*4:Int)=8:=by decide
  have k6:Go.IntKind.i64.wrap (8*4:Int)=32:=by decide
  have k7:Go.IntKind.i64.wrap (32-8:Int)=24:=by decide
  have w01:Go.IntKind.i64.wrap (0+1)=1:=by decide
  have n4:¬(4:Int)=0:=by decide
  have n8:¬(8:Int)=0:=by decide
  simp only[ir44,rs44,gl1,F44,hrr,k1,n8,sub_zero,qdb,qai,List.length_cons,List.length_nil,Nat.reduceAdd,Nat.le_refl,Nat.reduceLeDiff,Nat.reduceLT,true_and,and_true,↓evA,evB,evs,evp,mkB,repB,blen,↓retQ,res,resAll,resOne,kill,apartOk,exp,injV,injB,pur,purs,purR,pursR,List.reduceReplicate,Nat.reduceMul,Nat.reduceSub,Nat.reduceEqDiff,Int.reduceToNat,Int.reduceLE,Int.reduceLT,Int.reduceEq,reduceCtorEq,↓reduceIte]
  -- three
  refine awp_loopA (n:=389) hA [0,1,2,7,8,9,10,11] (by decide +kernel) (fun i:Nat=>[.slice 4 0 1 b.length b.length,.int .i64 32,.slice 5 0 1 12 12,.int .i64 4,.int .i64 64,ap 6 i,.nils,.int .i64 i])
    (fun i=>[.ints true .u64 roots,.ints true .u64 roots,.ints true .u64 seconds,.dead,.ints true .u8 b,.ints true .i64 rr]++apB .u64 (th.take i)) (fun i=>i≤64) (fun i=>64-i) 0 ?_ (by omega) ?_
  · refine Hd.same ?_
    simp only[ap_0,List.take_zero,apB_nil,↓evA,evB,evs,evp,mkB,repB,blen,↓retQ,res,resAll,resOne,kill,apartOk,exp,injV,injB,pur,purs,purR,pursR,List.reduceReplicate,Nat.reduceAdd,Nat.reduceMul,Nat.reduceSub,Nat.reduceEqDiff,Nat.reduceLT,Int.reduceToNat,Int.reduceLE,Int.reduceLT,Int.reduceEq,reduceCtorEq,↓reduceIte]
  intro i hi K hK
  have w1:Go.IntKind.i64.wrap ((i:Int)+1)=((i+1:Nat):Int):=by rw[wrap_i64];omega
  by_cases h64:i<64
  · have c:(i:Int)<64:=by omega
    have ht:=th_take h64
    have hl:(th.take i).length=i:=by rw[List.length_take,th_len];omega
    have hB1:apB .u64 (th.take (i+1))=[.ints false .u64 (th.take (i+1))]:=apB_pos (by rw[List.length_take,th_len];omega)
    cases i with
    | zero =>
      simp only[List.take_zero,List.nil_append]at ht
      simp only[c,w1,w01,k2,hrl,ap_0,List.take_zero,apB_nil,sub_zero,qdb,qai,List.length_cons,List.length_nil,Nat.reduceAdd,Nat.le_refl,Nat.reduceLeDiff,Nat.reduceLT,true_and,and_true,↓evA,evB,evs,evp,mkB,repB,blen,↓retQ,res,resAll,resOne,kill,apartOk,exp,injV,injB,pur,purs,purR,pursR,List.reduceReplicate,Nat.reduceMul,Nat.reduceSub,Nat.reduceEqDiff,Int.reduceToNat,Int.reduceLE,Int.reduceLT,Int.reduceEq,reduceCtorEq,↓reduceIte]
      repeat(refine And.intro (by omega) ?_)
      refine⟨1,hK _ (by omega) (by omega),Hd.of [0,1,2,3,4,5,7] (by decide) (by decide) (by simp) ?_⟩
      simp only[Nat.zero_add]at hB1 ht
      rw[ht]at hB1
      simp only[ap_s (n:=0),hB1,ht,gc,gcVs,gcV,posOf,gcH,gcB,Option.map_some,Option.map_none,List.replicate_zero,List.drop_zero,↓evA,evB,evs,evp,mkB,repB,blen,↓retQ,res,resAll,resOne,kill,apartOk,exp,injV,injB,pur,purs,purR,pursR,List.reduceReplicate,Nat.reduceAdd,Nat.reduceMul,Nat.reduceSub,Nat.reduceEqDiff,Nat.reduceLT,Int.reduceToNat,Int.reduceLE,Int.reduceLT,Int.reduceEq,reduceCtorEq,↓reduceIte]
    | succ j =>
      have hB:=apB_pos (k:=.u64) (xs:=th.take (j+1)) (by omega)
      simp only[c,w1,w01,k2,hrl,ap_s,hB,hl,sub_zero,qdb,qai,List.length_cons,List.length_nil,Nat.reduceAdd,Nat.le_refl,Nat.reduceLeDiff,Nat.reduceLT,true_and,and_true,↓evA,evB,evs,evp,mkB,repB,blen,↓retQ,res,resAll,resOne,kill,apartOk,exp,injV,injB,pur,purs,purR,pursR,List.reduceReplicate,Nat.reduceMul,Nat.reduceSub,Nat.reduceEqDiff,Int.reduceToNat,Int.reduceLE,Int.reduceLT,Int.reduceEq,reduceCtorEq,↓reduceIte]
      repeat(refine And.intro (by omega) ?_)
      refine⟨j+1+1,hK _ (by omega) (by omega),Hd.of [0,1,2,3,4,5,8] (by decide) (by decide) (by simp) ?_⟩
      rw[ht]at hB1
      simp only[ap_s,hB1,ht,gc,gcVs,gcV,posOf,gcH,gcB,Option.map_some,Option.map_none,List.replicate_zero,List.drop_zero,↓evA,evB,evs,evp,mkB,repB,blen,↓retQ,res,resAll,resOne,kill,apartOk,exp,injV,injB,pur,purs,purR,pursR,List.reduceReplicate,Nat.reduceAdd,Nat.reduceMul,Nat.reduceSub,Nat.reduceEqDiff,Nat.reduceLT,Int.reduceToNat,Int.reduceLE,Int.reduceLT,Int.reduceEq,reduceCtorEq,↓reduceIte]
  have h64':i=64:=by omega
  subst h64'
  have c:¬((64:Nat):Int)<64:=by omega
  have ht64:th.take 64=th:=rfl
  have hBt:apB .u64 th=[.ints false .u64 th]:=apB_pos (by rw[th_len];omega)
  simp only[c,ht64,hBt,ap_s (n:=63),sub_zero,qdb,qai,List.length_cons,List.length_nil,Nat.reduceAdd,Nat.le_refl,Nat.reduceLeDiff,Nat.reduceLT,true_and,and_true,↓evA,evB,evs,evp,mkB,repB,blen,↓retQ,res,resAll,resOne,kill,apartOk,exp,injV,injB,pur,purs,purR,pursR,List.reduceReplicate,Nat.reduceMul,Nat.reduceSub,Nat.reduceEqDiff,Int.reduceToNat,Int.reduceLE,Int.reduceLT,Int.reduceEq,reduceCtorEq,↓reduceIte]
  clear hK K w1 hi h64 c
  -- h
  refine awp_loopA (n:=389) hA [0,1,2,7,8,9,10,12] (by decide +kernel) (fun i:Nat=>[.slice 4 0 1 b.length b.length,.int .i64 32,.slice 5 0 1 12 12,.int .i64 4,.int .i64 64,.slice 6 0 1 64 64,ap 7 i,.int .i64 i])
    (fun i=>[.ints true .u64 roots,.ints true .u64 roots,.ints true .u64 seconds,.dead,.ints true .u8 b,.ints true .i64 rr,.ints false .u64 th]++apB .u64 (init256.take i)) (fun i=>i≤8) (fun i=>8-i) 0 ?_ (by omega) ?_
  · refine Hd.same ?_
    simp only[ap_0,List.take_zero,apB_nil,↓evA,evB,evs,evp,mkB,repB,blen,↓retQ,res,resAll,resOne,kill,apartOk,exp,injV,injB,pur,purs,purR,pursR,List.reduceReplicate,Nat.reduceAdd,Nat.reduceMul,Nat.reduceSub,Nat.reduceEqDiff,Nat.reduceLT,Int.reduceToNat,Int.reduceLE,Int.reduceLT,Int.reduceEq,reduceCtorEq,↓reduceIte]
  intro i hi K hK
  have w1:Go.IntKind.i64.wrap ((i:Int)+1)=((i+1:Nat):Int):=by rw[wrap_i64];omega
  have h8l:init256.length=8:=rfl
  by_cases h8:i<8
  · have c:(i:Int)<8:=by omega
    have ht:=hh_take i h8
    have hl:(init256.take i).length=i:=by rw[List.length_take,h8l];omega
    have hB1:apB .u64 (init256.take (i+1))=[.ints false .u64 (init256.take (i+1))]:=apB_pos (by rw[List.length_take,h8l];omega)
    cases i with
    | zero =>
      simp only[List.take_zero,List.nil_append]at ht
      simp only[c,w1,w01,k2,hsl,ap_0,List.take_zero,apB_nil,sub_zero,qdb,qai,List.length_cons,List.length_nil,Nat.reduceAdd,Nat.le_refl,Nat.reduceLeDiff,Nat.reduceLT,true_and,and_true,↓evA,evB,evs,evp,mkB,repB,blen,↓retQ,res,resAll,resOne,kill,apartOk,exp,injV,injB,pur,purs,purR,pursR,List.reduceReplicate,Nat.reduceMul,Nat.reduceSub,Nat.reduceEqDiff,Int.reduceToNat,Int.reduceLE,Int.reduceLT,Int.reduceEq,reduceCtorEq,↓reduceIte]
      repeat(refine And.intro (by omega) ?_)
      refine⟨1,hK _ (by omega) (by omega),Hd.of [0,1,2,3,4,5,6,8] (by decide) (by decide) (by simp) ?_⟩
      simp only[Nat.zero_add]at hB1 ht
      rw[ht]at hB1
      simp only[ap_s (n:=0),hB1,ht,gc,gcVs,gcV,posOf,gcH,gcB,Option.map_some,Option.map_none,List.replicate_zero,List.drop_zero,↓evA,evB,evs,evp,mkB,repB,blen,↓retQ,res,resAll,resOne,kill,apartOk,exp,injV,injB,pur,purs,purR,pursR,List.reduceReplicate,Nat.reduceAdd,Nat.reduceMul,Nat.reduceSub,Nat.reduceEqDiff,Nat.reduceLT,Int.reduceToNat,Int.reduceLE,Int.reduceLT,Int.reduceEq,reduceCtorEq,↓reduceIte]
    | succ j =>
      have hB:=apB_pos (k:=.u64) (xs:=init256.take (j+1)) (by omega)
      simp only[c,w1,w01,k2,hsl,ap_s,hB,hl,sub_zero,qdb,qai,List.length_cons,List.length_nil,Nat.reduceAdd,Nat.le_refl,Nat.reduceLeDiff,Nat.reduceLT,true_and,and_true,↓evA,evB,evs,evp,mkB,repB,blen,↓retQ,res,resAll,resOne,kill,apartOk,exp,injV,injB,pur,purs,purR,pursR,List.reduceReplicate,Nat.reduceMul,Nat.reduceSub,Nat.reduceEqDiff,Int.reduceToNat,Int.reduceLE,Int.reduceLT,Int.reduceEq,reduceCtorEq,↓reduceIte]
      repeat(refine And.intro (by omega) ?_)
      refine⟨j+1+1,hK _ (by omega) (by omega),Hd.of [0,1,2,3,4,5,6,9] (by decide) (by decide) (by simp) ?_⟩
      rw[ht]at hB1
      simp only[ap_s,hB1,ht,gc,gcVs,gcV,posOf,gcH,gcB,Option.map_some,Option.map_none,List.replicate_zero,List.drop_zero,↓evA,evB,evs,evp,mkB,repB,blen,↓retQ,res,resAll,resOne,kill,apartOk,exp,injV,injB,pur,purs,purR,pursR,List.reduceReplicate,Nat.reduceAdd,Nat.reduceMul,Nat.reduceSub,Nat.reduceEqDiff,Nat.reduceLT,Int.reduceToNat,Int.reduceLE,Int.reduceLT,Int.reduceEq,reduceCtorEq,↓reduceIte]
  have h8':i=8:=by omega
  subst h8'
  have c:¬((8:Nat):Int)<8:=by omega
  have ht8:init256.take 8=init256:=rfl
  have hB8:apB .u64 init256=[.ints false .u64 init256]:=apB_pos (by rw[h8l];omega)
  simp only[c,ht8,hB8,ap_s (n:=7),hbs,sub_zero,qdb,qai,List.length_cons,List.length_nil,Nat.reduceAdd,Nat.le_refl,Nat.reduceLeDiff,Nat.reduceLT,true_and,and_true,↓evA,evB,evs,evp,mkB,repB,blen,↓retQ,res,resAll,resOne,kill,apartOk,exp,injV,injB,pur,purs,purR,pursR,List.reduceReplicate,Nat.reduceMul,Nat.reduceSub,Nat.reduceEqDiff,Int.reduceToNat,Int.reduceLE,Int.reduceLT,Int.reduceEq,reduceCtorEq,↓reduceIte]
  clear hK K w1 hi h8 c
  refine⟨by omega,by omega,?_⟩
  -- what is padded
  have p0:b++[128]=pz b 0:=rfl
  have hz:∀i,i≤zs b.length 64→((b.length+1+i)%64=56↔i=zs b.length 64):=by
    intro i hi
    unfold zs at hi ⊢
    omega
  have hzb:zs b.length 64<64:=by unfold zs;omega
  have hm:∀i:Nat,((b.length+1+i:Nat):Int).tmod 64=(((b.length+1+i)%64:Nat):Int):=fun i=>by
    rw[Int.tmod_eq_emod_of_nonneg (by omega)];omega
  have n64:¬(64:Int)=0:=by decide
  refine awp_loopA (n:=389) hA [0,1,2,7,8,9,10,13] (by decide +kernel) (fun i:Nat=>[.slice 4 0 1 b.length b.length,.int .i64 32,.slice 5 0 1 12 12,.int .i64 4,.int .i64 64,.slice 6 0 1 64 64,.slice 7 0 1 8 8,.slice 8 0 1 (b.length+1+i) (b.length+1+i)])
    (fun i=>[.ints true .u64 roots,.ints true .u64 roots,.ints true .u64 seconds,.dead,.ints true .u8 b,.ints true .i64 rr,.ints false .u64 th,.ints false .u64 init256,.ints false .u8 (pz b i)]) (fun i=>i≤zs b.length 64) (fun i=>zs b.length 64-i) 0 ?_ (by omega) ?_
  · refine Hd.of [0,1,2,3,4,5,6,7,11] (by decide) (by decide) (by simp) ?_
    simp only[p0,gc,gcVs,gcV,posOf,gcH,gcB,Option.map_some,Option.map_none,List.replicate_zero,List.drop_zero,↓evA,evB,evs,evp,mkB,repB,blen,↓retQ,res,resAll,resOne,kill,apartOk,exp,injV,injB,pur,purs,purR,pursR,List.reduceReplicate,Nat.reduceAdd,Nat.reduceMul,Nat.reduceSub,Nat.reduceEqDiff,Nat.reduceLT,Int.reduceToNat,Int.reduceLE,Int.reduceLT,Int.reduceEq,reduceCtorEq,↓reduceIte]
  intro i hi K hK
  have hpl:=pz_len b i
  by_cases hlt:i<zs b.length 64
  · have c:(((b.length+1+i)%64:Nat):Int)≠56:=by
      intro h
      exact absurd ((hz i hi).1 (by omega)) (by omega)
    simp only[hm,k3,k4,n64,c,hpl,sub_zero,qdb,qai,List.length_cons,List.length_nil,Nat.reduceAdd,Nat.le_refl,Nat.reduceLeDiff,Nat.reduceLT,true_and,and_true,↓evA,evB,evs,evp,mkB,repB,blen,↓retQ,res,resAll,resOne,kill,apartOk,exp,injV,injB,pur,purs,purR,pursR,List.reduceReplicate,Nat.reduceMul,Nat.reduceSub,Nat.reduceEqDiff,Int.reduceToNat,Int.reduceLE,Int.reduceLT,Int.reduceEq,reduceCtorEq,↓reduceIte]
    repeat(refine And.intro (by omega) ?_)
    refine⟨i+1,hK _ (by omega) (by omega),Hd.of [0,1,2,3,4,5,6,7,10] (by decide) (by decide) (by simp) ?_⟩
    simp only[pz_succ,Nat.add_assoc,gc,gcVs,gcV,posOf,gcH,gcB,Option.map_some,Option.map_none,List.replicate_zero,List.drop_zero,↓evA,evB,evs,evp,mkB,repB,blen,↓retQ,res,resAll,resOne,kill,apartOk,exp,injV,injB,pur,purs,purR,pursR,List.reduceReplicate,Nat.reduceAdd,Nat.reduceMul,Nat.reduceSub,Nat.reduceEqDiff,Nat.reduceLT,Int.reduceToNat,Int.reduceLE,Int.reduceLT,Int.reduceEq,reduceCtorEq,↓reduceIte]
  have hiz:i=zs b.length 64:=by omega
  have c:(((b.length+1+i)%64:Nat):Int)=56:=by
    have:=(hz i hi).2 hiz
    omega
  simp only[hm,k3,k4,n64,c,hpl,sub_zero,qdb,qai,List.length_cons,List.length_nil,Nat.reduceAdd,Nat.le_refl,Nat.reduceLeDiff,Nat.reduceLT,true_and,and_true,↓evA,evB,evs,evp,mkB,repB,blen,↓retQ,res,resAll,resOne,kill,apartOk,exp,injV,injB,pur,purs,purR,pursR,List.reduceReplicate,Nat.reduceMul,Nat.reduceSub,Nat.reduceEqDiff,Int.reduceToNat,Int.reduceLE,Int.reduceLT,Int.reduceEq,reduceCtorEq,↓reduceIte]
  clear hK K c hlt
  obtain⟨Z,hZ⟩:∃Z,zs b.length 64=Z:=⟨_,rfl⟩
  rw[hZ]at hiz hzb
  subst hiz
  -- no further noughts
  refine awp_loopA (n:=389) hA [0,1,2,7,8,9,10,13,14] (by decide +kernel) (fun _:Unit=>[.slice 4 0 1 b.length b.length,.int .i64 32,.slice 5 0 1 12 12,.int .i64 4,.int .i64 64,.slice 6 0 1 64 64,.slice 7 0 1 8 8,.slice 8 0 1 (b.length+1+i) (b.length+1+i),.int .i64 8])
    (fun _=>[.ints true .u64 roots,.ints true .u64 roots,.ints true .u64 seconds,.dead,.ints true .u8 b,.ints true .i64 rr,.ints false .u64 th,.ints false .u64 init256,.ints false .u8 (pz b i)]) (fun _=>True) (fun _=>0) () ?_ trivial ?_
  · refine Hd.same ?_
    simp only[↓evA,evB,evs,evp,mkB,repB,blen,↓retQ,res,resAll,resOne,kill,apartOk,exp,injV,injB,pur,purs,purR,pursR,List.reduceReplicate,Nat.reduceAdd,Nat.reduceMul,Nat.reduceSub,Nat.reduceEqDiff,Nat.reduceLT,Int.reduceToNat,Int.reduceLE,Int.reduceLT,Int.reduceEq,reduceCtorEq,↓reduceIte]
  intro _ _ K hK
  simp only[k5,sub_zero,qdb,qai,List.length_cons,List.length_nil,Nat.reduceAdd,Nat.le_refl,Nat.reduceLeDiff,Nat.reduceLT,true_and,and_true,↓evA,evB,evs,evp,mkB,repB,blen,↓retQ,res,resAll,resOne,kill,apartOk,exp,injV,injB,pur,purs,purR,pursR,List.reduceReplicate,Nat.reduceMul,Nat.reduceSub,Nat.reduceEqDiff,Int.reduceToNat,Int.reduceLE,Int.reduceLT,Int.reduceEq,reduceCtorEq,↓reduceIte]
  clear hK K
  -- how many bits
  obtain⟨N,hN⟩:∃N:Int,((8*b.length:Nat):Int)=N:=⟨_,rfl⟩
  have hN0:0≤N:=by omega
  have hNw:Go.IntKind.u64.wrap (Go.IntKind.u64.wrap (b.length:Int)*8)=N:=by rw[wrap_u64,wrap_u64];omega
  have hby:∀j,j<8→Go.IntKind.u8.wrap (iShr .u64 N ((56-8*j:Nat):Int))=getI (be64 N) j:=by
    intro j hj
    rw[iShr_eq,wrap_u8]
    rcases (by omega:j=0∨j=1∨j=2∨j=3∨j=4∨j=5∨j=6∨j=7)with rfl | rfl | rfl | rfl | rfl | rfl | rfl | rfl<;>simp[be64,getI,Go.IntKind.bits]
  have hbel:(be64 N).length=8:=rfl
  refine awp_loopA (n:=389) hA [0,1,2,7,8,9,10,13,15] (by decide +kernel) (fun j:Nat=>[.slice 4 0 1 b.length b.length,.int .i64 32,.slice 5 0 1 12 12,.int .i64 4,.int .i64 64,.slice 6 0 1 64 64,.slice 7 0 1 8 8,.slice 8 0 1 (b.length+1+i+j) (b.length+1+i+j),.int .i64 j])
    (fun j=>[.ints true .u64 roots,.ints true .u64 roots,.ints true .u64 seconds,.dead,.ints true .u8 b,.ints true .i64 rr,.ints false .u64 th,.ints false .u64 init256,.ints false .u8 (pz b i++(be64 N).take j)]) (fun j=>j≤8) (fun j=>8-j) 0 ?_ (by omega) ?_
  · refine Hd.same ?_
    simp only[List.take_zero,↓evA,evB,evs,evp,mkB,repB,blen,↓retQ,res,resAll,resOne,kill,apartOk,exp,injV,injB,pur,purs,purR,pursR,List.reduceReplicate,Nat.reduceAdd,Nat.reduceMul,Nat.reduceSub,Nat.reduceEqDiff,Nat.reduceLT,Int.reduceToNat,Int.reduceLE,Int.reduceLT,Int.reduceEq,reduceCtorEq,↓reduceIte]
  intro j hj K hK
  have w1:Go.IntKind.i64.wrap ((j:Int)+1)=((j+1:Nat):Int):=by rw[wrap_i64];omega
  have w2:Go.IntKind.i64.wrap (8*(j:Int))=((8*j:Nat):Int):=by rw[wrap_i64];omega
  have hpl2:(pz b i).length+((be64 N).take j).length=b.length+1+i+j:=by rw[hpl,List.length_take,hbel];omega
  by_cases h8:j<8
  · have c:(j:Int)<8:=by omega
    have w3:Go.IntKind.i64.wrap (56-((8*j:Nat):Int))=((56-8*j:Nat):Int):=by rw[wrap_i64];omega
    have htk:=take_getI (xs:=be64 N) (j:=j) (by rw[hbel];exact h8)
    simp only[c,w1,w2,w3,hNw,hby j h8,hpl2,sub_zero,qdb,qai,List.length_cons,List.length_nil,Nat.reduceAdd,Nat.le_refl,Nat.reduceLeDiff,Nat.reduceLT,true_and,and_true,↓evA,evB,evs,evp,mkB,repB,blen,↓retQ,res,resAll,resOne,kill,apartOk,exp,injV,injB,pur,purs,purR,pursR,List.reduceReplicate,Nat.reduceMul,Nat.reduceSub,Nat.reduceEqDiff,Int.reduceToNat,Int.reduceLE,Int.reduceLT,Int.reduceEq,reduceCtorEq,↓reduceIte]
    repeat(refine And.intro (by omega) ?_)
    refine⟨j+1,hK _ (by omega) (by omega),Hd.of [0,1,2,3,4,5,6,7,10] (by decide) (by decide) (by simp) ?_⟩
    simp only[htk,Nat.add_assoc,gc,gcVs,gcV,posOf,gcH,gcB,Option.map_some,Option.map_none,List.replicate_zero,List.drop_zero,↓evA,evB,evs,evp,mkB,repB,blen,↓retQ,res,resAll,resOne,kill,apartOk,exp,injV,injB,pur,purs,purR,pursR,List.reduceReplicate,Nat.reduceAdd,Nat.reduceMul,Nat.reduceSub,Nat.reduceEqDiff,Nat.reduceLT,Int.reduceToNat,Int.reduceLE,Int.reduceLT,Int.reduceEq,reduceCtorEq,↓reduceIte]
  have hj8:j=8:=by omega
  subst hj8
  have c:¬((8:Nat):Int)<8:=by omega
  obtain⟨p,hp⟩:∃p,padded b 64=p:=⟨_,rfl⟩
  have hpp:pz b i++(be64 N).take 8=p:=by
    rw[←hp,padded,hZ,show i+(64/8-8)=i from rfl,←hN]
    rfl
  obtain⟨T,hT,hTb⟩:∃T,p.length=64*T∧64*T≤b.length+200:=by rw[←hp];exact padded_len64 b
  have hlT:b.length+1+i+8=64*T:=by rw[←hT,←hpp,List.length_append,hpl,List.length_take,hbel];omega
  have hpd:Dig 256 p:=by
    rw[←hpp]
    refine (Dig.append (Dig.append hb ?_) ?_)
    · intro x hx
      rcases List.mem_cons.1 hx with rfl | hx
      · decide
      · rw[(List.mem_replicate.1 hx).2];decide
    · intro x hx
      have:=List.mem_of_mem_take hx
      simp only[be64,List.mem_cons,List.not_mem_nil,or_false]at this
      omega
  simp only[c,hpp,hlT,sub_zero,qdb,qai,List.length_cons,List.length_nil,Nat.reduceAdd,Nat.le_refl,Nat.reduceLeDiff,Nat.reduceLT,true_and,and_true,↓evA,evB,evs,evp,mkB,repB,blen,↓retQ,res,resAll,resOne,kill,apartOk,exp,injV,injB,pur,purs,purR,pursR,List.reduceReplicate,Nat.reduceMul,Nat.reduceSub,Nat.reduceEqDiff,Int.reduceToNat,Int.reduceLE,Int.reduceLT,Int.reduceEq,reduceCtorEq,↓reduceIte]
  clear hK K c w1 w2 hpl2 hby hNw
  -- the blocks
  have pt:∀(x n:Int),0≤n→n≤32→pre64 [.v (.int .u64 x),.v (.int .i64 n),.v (.int .i64 32)]:=fun x n h0 h1=>⟨x,n,rfl,h0,h1⟩
  have pc:∀x:Int,pre65 [.v (.int .u64 x),.v (.int .i64 32)]:=fun x=>⟨x,rfl⟩
  have r0:getI rr 0=7:=rfl
  have r1:getI rr 1=18:=rfl
  have r2:getI rr 2=3:=rfl
  have r3':getI rr 3=17:=rfl
  have r4:getI rr 4=19:=rfl
  have r5:getI rr 5=10:=rfl
  have r6:getI rr 6=6:=rfl
  have r7:getI rr 7=11:=rfl
  have r8:getI rr 8=25:=rfl
  have r9:getI rr 9=2:=rfl
  have r10:getI rr 10=13:=rfl
  have r11:getI rr 11=22:=rfl
  have q0:(0:Int)≤3:=by decide
  have q1:(0:Int)≤10:=by decide
  refine awp_loopA (n:=389) hA [1,2,7,8,9,10,13,16] (by decide +kernel) (fun t:Nat=>[.int .i64 32,.slice 5 0 1 12 12,.int .i64 4,.int .i64 64,.slice 6 0 1 64 64,.slice 7 0 1 8 8,.slice 8 0 1 (64*T) (64*T),.int .i64 (64*t:Nat)])
    (fun t=>[.ints true .u64 roots,.ints true .u64 roots,.ints true .u64 seconds,.dead,.ints true .u8 b,.ints true .i64 rr,.ints false .u64 th,.ints false .u64 (it (block256 p) init256 t),.ints false .u8 p]) (fun t=>t≤T) (fun t=>T-t) 0 ?_ (by omega) ?_
  · refine Hd.same ?_
    simp only[it,Nat.mul_zero,↓evA,evB,evs,evp,mkB,repB,blen,↓retQ,res,resAll,resOne,kill,apartOk,exp,injV,injB,pur,purs,purR,pursR,List.reduceReplicate,Nat.reduceAdd,Nat.reduceMul,Nat.reduceSub,Nat.reduceEqDiff,Nat.reduceLT,Int.reduceToNat,Int.reduceLE,Int.reduceLT,Int.reduceEq,reduceCtorEq,↓reduceIte]
  intro t ht K hK
  obtain⟨h,hh⟩:∃h,it (block256 p) init256 t=h:=⟨_,rfl⟩
  have hhl:h.length=8:=by rw[←hh,block256_len];rfl
  have hhd:D32 h:=by rw[←hh];exact D32_blocks D32_init t
  have hs8:sub h 0 8=h:=sub_zero hhl
  rw[hh]
  by_cases htT:t<T
  · have c:((64*t:Nat):Int)<((64*T:Nat):Int):=by omega
    have m1:(8:Int)*64≤140737488355328:=by decide
    have m2:(64:Int)≤9223372036854775807:=by decide
    have m0:(0:Int)≤64:=by decide
    simp only[c,m0,m1,m2,sub_zero,qdb,qai,List.length_cons,List.length_nil,Nat.reduceAdd,Nat.le_refl,Nat.reduceLeDiff,Nat.reduceLT,true_and,and_true,↓evA,evB,evs,evp,mkB,repB,blen,↓retQ,res,resAll,resOne,kill,apartOk,exp,injV,injB,pur,purs,purR,pursR,List.reduceReplicate,Nat.reduceMul,Nat.reduceSub,Nat.reduceEqDiff,Int.reduceToNat,Int.reduceLE,Int.reduceLT,Int.reduceEq,reduceCtorEq,↓reduceIte]
    refine awp_loopA (n:=389) hA [1,2,7,8,9,10,13,16,17,18] (by decide +kernel) (fun i:Nat=>[.int .i64 32,.slice 5 0 1 12 12,.int .i64 4,.int .i64 64,.slice 6 0 1 64 64,.slice 7 0 1 8 8,.slice 8 0 1 (64*T) (64*T),.int .i64 (64*t:Nat),.slice 9 0 1 64 64,.int .i64 i])
      (fun i=>[.ints true .u64 roots,.ints true .u64 roots,.ints true .u64 seconds,.dead,.ints true .u8 b,.ints true .i64 rr,.ints false .u64 th,.ints false .u64 h,.ints false .u8 p,.ints false .u64 (it (rB p (64*t)) z64 i)]) (fun i=>i≤64) (fun i=>64-i) 0 ?_ (by omega) ?_
    · refine Hd.same ?_
      simp only[it,z64,↓evA,evB,evs,evp,mkB,repB,blen,↓retQ,res,resAll,resOne,kill,apartOk,exp,injV,injB,pur,purs,purR,pursR,List.reduceReplicate,Nat.reduceAdd,Nat.reduceMul,Nat.reduceSub,Nat.reduceEqDiff,Nat.reduceLT,Int.reduceToNat,Int.reduceLE,Int.reduceLT,Int.reduceEq,reduceCtorEq,↓reduceIte]
    intro i hi K1 hK1
    obtain⟨w,hw⟩:∃w,it (rB p (64*t)) z64 i=w:=⟨_,rfl⟩
    have hwl:w.length=64:=by rw[←hw,rB_len];rfl
    rw[hw]
    have w1:Go.IntKind.i64.wrap ((i:Int)+1)=((i+1:Nat):Int):=by rw[wrap_i64];omega
    have w2:Go.IntKind.i64.wrap ((i:Int).tdiv 4)=((i/4:Nat):Int):=w64_div4 (by omega)
    have w3:Go.IntKind.i64.wrap (((64*t:Nat):Int)+(i:Int))=((64*t+i:Nat):Int):=by rw[wrap_i64];omega
    by_cases h64:i<64
    · have c1:(i:Int)<64:=by omega
      simp only[c1,k3,w1,w2,w3,n4,hwl,sub_zero,qdb,qai,List.length_cons,List.length_nil,Nat.reduceAdd,Nat.le_refl,Nat.reduceLeDiff,Nat.reduceLT,true_and,and_true,↓evA,evB,evs,evp,mkB,repB,blen,↓retQ,res,resAll,resOne,kill,apartOk,exp,injV,injB,pur,purs,purR,pursR,List.reduceReplicate,Nat.reduceMul,Nat.reduceSub,Nat.reduceEqDiff,Int.reduceToNat,Int.reduceLE,Int.reduceLT,Int.reduceEq,reduceCtorEq,↓reduceIte]
      repeat(refine And.intro (by omega) ?_)
      refine⟨i+1,hK1 _ (by omega) (by omega),Hd.same ?_⟩
      simp only[it,hw,rB,↓evA,evB,evs,evp,mkB,repB,blen,↓retQ,res,resAll,resOne,kill,apartOk,exp,injV,injB,pur,purs,purR,pursR,List.reduceReplicate,Nat.reduceAdd,Nat.reduceMul,Nat.reduceSub,Nat.reduceEqDiff,Nat.reduceLT,Int.reduceToNat,Int.reduceLE,Int.reduceLT,Int.reduceEq,reduceCtorEq,↓reduceIte]
    have hi64:i=64:=by omega
    subst hi64
    have c1:¬((64:Nat):Int)<64:=by omega
    have hw16:it (W256 p (64*t)) z64 16=w:=by rw[←rB_all hpd (64*t) 16 (by omega)];exact hw
    simp only[c1,k3,sub_zero,qdb,qai,List.length_cons,List.length_nil,Nat.reduceAdd,Nat.le_refl,Nat.reduceLeDiff,Nat.reduceLT,true_and,and_true,↓evA,evB,evs,evp,mkB,repB,blen,↓retQ,res,resAll,resOne,kill,apartOk,exp,injV,injB,pur,purs,purR,pursR,List.reduceReplicate,Nat.reduceMul,Nat.reduceSub,Nat.reduceEqDiff,Int.reduceToNat,Int.reduceLE,Int.reduceLT,Int.reduceEq,reduceCtorEq,↓reduceIte]
    clear hK1 K1 w1 w2 w3 hw c1 h64
    refine awp_loopA (n:=389) hA [1,2,7,8,9,10,13,16,17,19] (by decide +kernel) (fun i:Nat=>[.int .i64 32,.slice 5 0 1 12 12,.int .i64 4,.int .i64 64,.slice 6 0 1 64 64,.slice 7 0 1 8 8,.slice 8 0 1 (64*T) (64*T),.int .i64 (64*t:Nat),.slice 9 0 1 64 64,.int .i64 i])
      (fun i=>[.ints true .u64 roots,.ints true .u64 roots,.ints true .u64 seconds,.dead,.ints true .u8 b,.ints true .i64 rr,.ints false .u64 th,.ints false .u64 h,.ints false .u8 p,.ints false .u64 (it (W256 p (64*t)) z64 i)]) (fun i=>16≤i∧i≤64) (fun i=>64-i) 16 ?_ (by omega) ?_
    · refine Hd.same ?_
      simp only[hw16,↓evA,evB,evs,evp,mkB,repB,blen,↓retQ,res,resAll,resOne,kill,apartOk,exp,injV,injB,pur,purs,purR,pursR,List.reduceReplicate,Nat.reduceAdd,Nat.reduceMul,Nat.reduceSub,Nat.reduceEqDiff,Nat.reduceLT,Int.reduceToNat,Int.reduceLE,Int.reduceLT,Int.reduceEq,reduceCtorEq,↓reduceIte]
    clear hw16 hwl hi
    intro i hi K1 hK1
    obtain⟨w,hw⟩:∃w,it (W256 p (64*t)) z64 i=w:=⟨_,rfl⟩
    have hwl:w.length=64:=by rw[←hw,W256_len];rfl
    have hwd:D32 w:=by rw[←hw];exact D32_itW hpd _ (D32_rep 64) i
    have hs:it (W256 p (64*t)) z64 (i+1)=w.set i (rWv w i):=by rw[it,hw,W256,if_neg (by omega),rWv_eq hwd]
    rw[hw]
    have w1:Go.IntKind.i64.wrap ((i:Int)+1)=((i+1:Nat):Int):=by rw[wrap_i64];omega
    have w15:Go.IntKind.i64.wrap ((i:Int)-15)=((i-15:Nat):Int):=by rw[wrap_i64];omega
    have w2:Go.IntKind.i64.wrap ((i:Int)-2)=((i-2:Nat):Int):=by rw[wrap_i64];omega
    have w16:Go.IntKind.i64.wrap ((i:Int)-16)=((i-16:Nat):Int):=by rw[wrap_i64];omega
    have w7:Go.IntKind.i64.wrap ((i:Int)-7)=((i-7:Nat):Int):=by rw[wrap_i64];omega
    by_cases h64:i<64
    · have c1:(i:Int)<64:=by omega
      simp only[c1,w1,w2,w7,w15,w16,hwl,hrr,r0,r1,r2,r3',r4,r5,pt,pc,q0,q1,s64,s65,F64,F65,sub_zero,qdb,qai,List.length_cons,List.length_nil,Nat.reduceAdd,Nat.le_refl,Nat.reduceLeDiff,Nat.reduceLT,true_and,and_true,↓evA,evB,evs,evp,mkB,repB,blen,↓retQ,res,resAll,resOne,kill,apartOk,exp,injV,injB,pur,purs,purR,pursR,List.reduceReplicate,Nat.reduceMul,Nat.reduceSub,Nat.reduceEqDiff,Int.reduceToNat,Int.reduceLE,Int.reduceLT,Int.reduceEq,reduceCtorEq,↓reduceIte]
      repeat(refine And.intro (by omega) ?_)
      refine⟨i+1,hK1 _ (by omega) (by omega),Hd.same ?_⟩
      simp only[hs,rWv,rS,↓evA,evB,evs,evp,mkB,repB,blen,↓retQ,res,resAll,resOne,kill,apartOk,exp,injV,injB,pur,purs,purR,pursR,List.reduceReplicate,Nat.reduceAdd,Nat.reduceMul,Nat.reduceSub,Nat.reduceEqDiff,Nat.reduceLT,Int.reduceToNat,Int.reduceLE,Int.reduceLT,Int.reduceEq,reduceCtorEq,↓reduceIte]
    have hi64:i=64:=by omega
    subst hi64
    have c1:¬((64:Nat):Int)<64:=by omega
    simp only[c1,hs8,hhl,sub_zero,qdb,qai,List.length_cons,List.length_nil,Nat.reduceAdd,Nat.le_refl,Nat.reduceLeDiff,Nat.reduceLT,true_and,and_true,↓evA,evB,evs,evp,mkB,repB,blen,↓retQ,res,resAll,resOne,kill,apartOk,exp,injV,injB,pur,purs,purR,pursR,List.reduceReplicate,Nat.reduceMul,Nat.reduceSub,Nat.reduceEqDiff,Int.reduceToNat,Int.reduceLE,Int.reduceLT,Int.reduceEq,reduceCtorEq,↓reduceIte]
    clear hK1 K1 w1 w2 w7 w15 w16 c1 h64 hs
    refine awp_loopA (n:=389) hA [1,2,7,8,9,10,13,16,17,24,25] (by decide +kernel) (fun i:Nat=>[.int .i64 32,.slice 5 0 1 12 12,.int .i64 4,.int .i64 64,.slice 6 0 1 64 64,.slice 7 0 1 8 8,.slice 8 0 1 (64*T) (64*T),.int .i64 (64*t:Nat),.slice 9 0 1 64 64,.slice 10 0 1 8 8,.int .i64 i])
      (fun i=>[.ints true .u64 roots,.ints true .u64 roots,.ints true .u64 seconds,.dead,.ints true .u8 b,.ints true .i64 rr,.ints false .u64 th,.ints false .u64 h,.ints false .u8 p,.ints false .u64 w,.ints false .u64 (it (R256 w) h i)]) (fun i=>i≤64) (fun i=>64-i) 0 ?_ (by omega) ?_
    · refine Hd.of [0,1,2,3,4,5,6,7,8,9,11] (by decide) (by decide) (by simp) ?_
      simp only[it,gc,gcVs,gcV,posOf,gcH,gcB,Option.map_some,Option.map_none,List.replicate_zero,List.drop_zero,↓evA,evB,evs,evp,mkB,repB,blen,↓retQ,res,resAll,resOne,kill,apartOk,exp,injV,injB,pur,purs,purR,pursR,List.reduceReplicate,Nat.reduceAdd,Nat.reduceMul,Nat.reduceSub,Nat.reduceEqDiff,Nat.reduceLT,Int.reduceToNat,Int.reduceLE,Int.reduceLT,Int.reduceEq,reduceCtorEq,↓reduceIte]
    clear hi
    intro i hi K1 hK1
    obtain⟨v,hv⟩:∃v,it (R256 w) h i=v:=⟨_,rfl⟩
    have hvl:v.length=8:=by rw[←hv,R256_len hhl]
    have hvd:D32 v:=by rw[←hv];exact D32_itR hhd i
    rw[hv]
    have w1:Go.IntKind.i64.wrap ((i:Int)+1)=((i+1:Nat):Int):=by rw[wrap_i64];omega
    by_cases h64:i<64
    · have c1:(i:Int)<64:=by omega
      have hs:it (R256 w) h (i+1)=rR (getI th i) w v i:=by rw[it,hv,rR_eq hvd hwd (th_32 h64) (th_get h64)]
      have htl:th.length=64:=th_len
      simp only[c1,w1,hwl,hvl,htl,hrr,r6,r7,r8,r9,r10,r11,pt,pc,s64,s65,F64,F65,sub_zero,qdb,qai,List.length_cons,List.length_nil,Nat.reduceAdd,Nat.le_refl,Nat.reduceLeDiff,Nat.reduceLT,true_and,and_true,↓evA,evB,evs,evp,mkB,repB,blen,↓retQ,res,resAll,resOne,kill,apartOk,exp,injV,injB,pur,purs,purR,pursR,List.reduceReplicate,Nat.reduceMul,Nat.reduceSub,Nat.reduceEqDiff,Int.reduceToNat,Int.reduceLE,Int.reduceLT,Int.reduceEq,reduceCtorEq,↓reduceIte]
      repeat(refine And.intro (by omega) ?_)
      refine⟨i+1,hK1 _ (by omega) (by omega),Hd.of [0,1,2,3,4,5,6,7,8,9,11] (by decide) (by decide) (by simp) ?_⟩
      simp only[hs,rR,rt,ru,r3,gc,gcVs,gcV,posOf,gcH,gcB,Option.map_some,Option.map_none,List.replicate_zero,List.drop_zero,↓evA,evB,evs,evp,mkB,repB,blen,↓retQ,res,resAll,resOne,kill,apartOk,exp,injV,injB,pur,purs,purR,pursR,List.reduceReplicate,Nat.reduceAdd,Nat.reduceMul,Nat.reduceSub,Nat.reduceEqDiff,Nat.reduceLT,Int.reduceToNat,Int.reduceLE,Int.reduceLT,Int.reduceEq,reduceCtorEq,↓reduceIte]
    have hi64:i=64:=by omega
    subst hi64
    have c1:¬((64:Nat):Int)<64:=by omega
    simp only[c1,sub_zero,qdb,qai,List.length_cons,List.length_nil,Nat.reduceAdd,Nat.le_refl,Nat.reduceLeDiff,Nat.reduceLT,true_and,and_true,↓evA,evB,evs,evp,mkB,repB,blen,↓retQ,res,resAll,resOne,kill,apartOk,exp,injV,injB,pur,purs,purR,pursR,List.reduceReplicate,Nat.reduceMul,Nat.reduceSub,Nat.reduceEqDiff,Int.reduceToNat,Int.reduceLE,Int.reduceLT,Int.reduceEq,reduceCtorEq,↓reduceIte]
    clear hK1 K1 w1 c1 h64
    refine awp_loopA (n:=389) hA [1,2,7,8,9,10,13,16,24,30] (by decide +kernel) (fun i:Nat=>[.int .i64 32,.slice 5 0 1 12 12,.int .i64 4,.int .i64 64,.slice 6 0 1 64 64,.slice 7 0 1 8 8,.slice 8 0 1 (64*T) (64*T),.int .i64 (64*t:Nat),.slice 10 0 1 8 8,.int .i64 i])
      (fun i=>[.ints true .u64 roots,.ints true .u64 roots,.ints true .u64 seconds,.dead,.ints true .u8 b,.ints true .i64 rr,.ints false .u64 th,.ints false .u64 (it (H256 v) h i),.ints false .u8 p,.ints false .u64 w,.ints false .u64 v]) (fun i=>i≤8) (fun i=>8-i) 0 ?_ (by omega) ?_
    · refine Hd.same ?_
      simp only[it,↓evA,evB,evs,evp,mkB,repB,blen,↓retQ,res,resAll,resOne,kill,apartOk,exp,injV,injB,pur,purs,purR,pursR,List.reduceReplicate,Nat.reduceAdd,Nat.reduceMul,Nat.reduceSub,Nat.reduceEqDiff,Nat.reduceLT,Int.reduceToNat,Int.reduceLE,Int.reduceLT,Int.reduceEq,reduceCtorEq,↓reduceIte]
    clear hi
    intro i hi K1 hK1
    obtain⟨g',hg'⟩:∃g',it (H256 v) h i=g':=⟨_,rfl⟩
    have hgl:g'.length=8:=by rw[←hg',H256_len,hhl]
    have hgd:D32 g':=by rw[←hg'];exact D32_itH hhd i
    rw[hg']
    have w1:Go.IntKind.i64.wrap ((i:Int)+1)=((i+1:Nat):Int):=by rw[wrap_i64];omega
    by_cases h8:i<8
    · have c1:(i:Int)<8:=by omega
      simp only[c1,w1,hvl,hgl,pc,rH_eq hvd hgd,s65,F65,sub_zero,qdb,qai,List.length_cons,List.length_nil,Nat.reduceAdd,Nat.le_refl,Nat.reduceLeDiff,Nat.reduceLT,true_and,and_true,↓evA,evB,evs,evp,mkB,repB,blen,↓retQ,res,resAll,resOne,kill,apartOk,exp,injV,injB,pur,purs,purR,pursR,List.reduceReplicate,Nat.reduceMul,Nat.reduceSub,Nat.reduceEqDiff,Int.reduceToNat,Int.reduceLE,Int.reduceLT,Int.reduceEq,reduceCtorEq,↓reduceIte]
      repeat(refine And.intro (by omega) ?_)
      refine⟨i+1,hK1 _ (by omega) (by omega),Hd.same ?_⟩
      simp only[it,hg',H256,↓evA,evB,evs,evp,mkB,repB,blen,↓retQ,res,resAll,resOne,kill,apartOk,exp,injV,injB,pur,purs,purR,pursR,List.reduceReplicate,Nat.reduceAdd,Nat.reduceMul,Nat.reduceSub,Nat.reduceEqDiff,Nat.reduceLT,Int.reduceToNat,Int.reduceLE,Int.reduceLT,Int.reduceEq,reduceCtorEq,↓reduceIte]
    have hi8:i=8:=by omega
    subst hi8
    have c1:¬((8:Nat):Int)<8:=by omega
    have w2:Go.IntKind.i64.wrap (((64*t:Nat):Int)+64)=((64*(t+1):Nat):Int):=by rw[wrap_i64];omega
    have hb1:it (block256 p) init256 (t+1)=g':=by
      rw[it,hh]
      unfold block256
      rw[hw,hv,hg']
    simp only[c1,k3,w2,sub_zero,qdb,qai,List.length_cons,List.length_nil,Nat.reduceAdd,Nat.le_refl,Nat.reduceLeDiff,Nat.reduceLT,true_and,and_true,↓evA,evB,evs,evp,mkB,repB,blen,↓retQ,res,resAll,resOne,kill,apartOk,exp,injV,injB,pur,purs,purR,pursR,List.reduceReplicate,Nat.reduceMul,Nat.reduceSub,Nat.reduceEqDiff,Int.reduceToNat,Int.reduceLE,Int.reduceLT,Int.reduceEq,reduceCtorEq,↓reduceIte]
    refine⟨t+1,hK _ (by omega) (by omega),Hd.of [0,1,2,3,4,5,6,7,8] (by decide) (by decide) (by simp) ?_⟩
    simp only[hb1,gc,gcVs,gcV,posOf,gcH,gcB,Option.map_some,Option.map_none,List.replicate_zero,List.drop_zero,↓evA,evB,evs,evp,mkB,repB,blen,↓retQ,res,resAll,resOne,kill,apartOk,exp,injV,injB,pur,purs,purR,pursR,List.reduceReplicate,Nat.reduceAdd,Nat.reduceMul,Nat.reduceSub,Nat.reduceEqDiff,Nat.reduceLT,Int.reduceToNat,Int.reduceLE,Int.reduceLT,Int.reduceEq,reduceCtorEq,↓reduceIte]
  -- the bytes
  have htT':t=T:=by omega
  have c:¬((64*t:Nat):Int)<((64*T:Nat):Int):=by omega
  have hpT:p.length/64=t:=by omega
  simp only[c,sub_zero,qdb,qai,List.length_cons,List.length_nil,Nat.reduceAdd,Nat.le_refl,Nat.reduceLeDiff,Nat.reduceLT,true_and,and_true,↓evA,evB,evs,evp,mkB,repB,blen,↓retQ,res,resAll,resOne,kill,apartOk,exp,injV,injB,pur,purs,purR,pursR,List.reduceReplicate,Nat.reduceMul,Nat.reduceSub,Nat.reduceEqDiff,Int.reduceToNat,Int.reduceLE,Int.reduceLT,Int.reduceEq,reduceCtorEq,↓reduceIte]
  clear hK K
  obtain⟨O,hO⟩:∃O,it (O256 h) z32 32=O:=⟨_,rfl⟩
  have hOl:O.length=32:=by rw[←hO,O256_len];rfl
  have hres:sum256 p=O:=by rw[sum256,hpT,hh,hO]
  refine awp_loopA (n:=389) hA [1,7,10,31,32] (by decide +kernel) (fun i:Nat=>[.int .i64 32,.int .i64 4,.slice 7 0 1 8 8,ap 9 i,.int .i64 i])
    (fun i=>[.ints true .u64 roots,.ints true .u64 roots,.ints true .u64 seconds,.dead,.ints true .u8 b,.ints true .i64 rr,.ints false .u64 th,.ints false .u64 h,.ints false .u8 p]++apB .u8 (O.take i)) (fun i=>i≤32) (fun i=>32-i) 0 ?_ (by omega) ?_
  · refine Hd.same ?_
    simp only[ap_0,List.take_zero,apB_nil,↓evA,evB,evs,evp,mkB,repB,blen,↓retQ,res,resAll,resOne,kill,apartOk,exp,injV,injB,pur,purs,purR,pursR,List.reduceReplicate,Nat.reduceAdd,Nat.reduceMul,Nat.reduceSub,Nat.reduceEqDiff,Nat.reduceLT,Int.reduceToNat,Int.reduceLE,Int.reduceLT,Int.reduceEq,reduceCtorEq,↓reduceIte]
  intro i hi K hK
  have w1:Go.IntKind.i64.wrap ((i:Int)+1)=((i+1:Nat):Int):=by rw[wrap_i64];omega
  have w2:Go.IntKind.i64.wrap ((i:Int).tdiv 4)=((i/4:Nat):Int):=w64_div4 (by omega)
  have w3:(i:Int).tmod 4=((i%4:Nat):Int):=tmod4
  have w4:Go.IntKind.i64.wrap (8*((i%4:Nat):Int))=((8*(i%4):Nat):Int):=by rw[wrap_i64];omega
  have w5:Go.IntKind.i64.wrap (24-((8*(i%4):Nat):Int))=((24-i%4*8:Nat):Int):=by rw[wrap_i64];omega
  by_cases h32:i<32
  · have c1:(i:Int)<32:=by omega
    have ht:=O256_take (h:=h) h32
    rw[hO]at ht
    have hl:(O.take i).length=i:=by rw[List.length_take,hOl];omega
    have hB1:apB .u8 (O.take (i+1))=[.ints false .u8 (O.take (i+1))]:=apB_pos (by rw[List.length_take,hOl];omega)
    rw[ht]at hB1
    by_cases h0:i=0
    · have hA0:ap 9 i=.nils:=by rw[h0,ap_0]
      have ht0:O.take i=[]:=by rw[h0,List.take_zero]
      have hA1:ap 9 (i+1)=.slice 9 0 1 1 1:=by rw[h0,ap_s]
      rw[ht0,List.nil_append]at ht hB1
      simp only[c1,k6,k7,w1,w2,w3,w4,w5,n4,hhl,hA0,ht0,apB_nil,sub_zero,qdb,qai,List.length_cons,List.length_nil,Nat.reduceAdd,Nat.le_refl,Nat.reduceLeDiff,Nat.reduceLT,true_and,and_true,↓evA,evB,evs,evp,mkB,repB,blen,↓retQ,res,resAll,resOne,kill,apartOk,exp,injV,injB,pur,purs,purR,pursR,List.reduceReplicate,Nat.reduceMul,Nat.reduceSub,Nat.reduceEqDiff,Int.reduceToNat,Int.reduceLE,Int.reduceLT,Int.reduceEq,reduceCtorEq,↓reduceIte]
      repeat(refine And.intro (by omega) ?_)
      refine⟨i+1,hK _ (by omega) (by omega),Hd.of [0,1,2,3,4,5,6,7,8,10] (by decide) (by decide) (by simp) ?_⟩
      simp only[hA1,hB1,ht,gc,gcVs,gcV,posOf,gcH,gcB,Option.map_some,Option.map_none,List.replicate_zero,List.drop_zero,↓evA,evB,evs,evp,mkB,repB,blen,↓retQ,res,resAll,resOne,kill,apartOk,exp,injV,injB,pur,purs,purR,pursR,List.reduceReplicate,Nat.reduceAdd,Nat.reduceMul,Nat.reduceSub,Nat.reduceEqDiff,Nat.reduceLT,Int.reduceToNat,Int.reduceLE,Int.reduceLT,Int.reduceEq,reduceCtorEq,↓reduceIte]
    · obtain⟨j,rfl⟩:∃j,i=j+1:=⟨i-1,by omega⟩
      have hB:=apB_pos (k:=.u8) (xs:=O.take (j+1)) (by omega)
      simp only[c1,k6,k7,w1,w2,w3,w4,w5,n4,hhl,ap_s,hB,hl,sub_zero,qdb,qai,List.length_cons,List.length_nil,Nat.reduceAdd,Nat.le_refl,Nat.reduceLeDiff,Nat.reduceLT,true_and,and_true,↓evA,evB,evs,evp,mkB,repB,blen,↓retQ,res,resAll,resOne,kill,apartOk,exp,injV,injB,pur,purs,purR,pursR,List.reduceReplicate,Nat.reduceMul,Nat.reduceSub,Nat.reduceEqDiff,Int.reduceToNat,Int.reduceLE,Int.reduceLT,Int.reduceEq,reduceCtorEq,↓reduceIte]
      repeat(refine And.intro (by omega) ?_)
      refine⟨j+1+1,hK _ (by omega) (by omega),Hd.of [0,1,2,3,4,5,6,7,8,11] (by decide) (by decide) (by simp) ?_⟩
      simp only[ap_s,hB1,ht,gc,gcVs,gcV,posOf,gcH,gcB,Option.map_some,Option.map_none,List.replicate_zero,List.drop_zero,↓evA,evB,evs,evp,mkB,repB,blen,↓retQ,res,resAll,resOne,kill,apartOk,exp,injV,injB,pur,purs,purR,pursR,List.reduceReplicate,Nat.reduceAdd,Nat.reduceMul,Nat.reduceSub,Nat.reduceEqDiff,Nat.reduceLT,Int.reduceToNat,Int.reduceLE,Int.reduceLT,Int.reduceEq,reduceCtorEq,↓reduceIte]
  have hi32:i=32:=by omega
  subst hi32
  have c1:¬((32:Nat):Int)<32:=by omega
  have hto:O.take 32=O:=List.take_of_length_le (by omega)
  have hB:=apB_pos (k:=.u8) (xs:=O) (by omega)
  simp only[c1,k6,hto,hB,ap_s (n:=31),hp,hres,sub_zero,qdb,qai,List.length_cons,List.length_nil,Nat.reduceAdd,Nat.le_refl,Nat.reduceLeDiff,Nat.reduceLT,true_and,and_true,↓evA,evB,evs,evp,mkB,repB,blen,↓retQ,res,resAll,resOne,kill,apartOk,exp,injV,injB,pur,purs,purR,pursR,List.reduceReplicate,Nat.reduceMul,Nat.reduceSub,Nat.reduceEqDiff,Int.reduceToNat,Int.reduceLE,Int.reduceLT,Int.reduceEq,reduceCtorEq,↓reduceIte]
  exact out_sl (b:=9) rfl (by omega) (by omega) (sub_zero hOl)
end Am
