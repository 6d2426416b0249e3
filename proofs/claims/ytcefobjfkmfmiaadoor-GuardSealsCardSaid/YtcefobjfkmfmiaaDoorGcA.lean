/-
Working texts: contracts of functions, and the numbers behind them.
-/
import Derived.Test.YtcefobjfkmfmiaaDoorAeN
import Derived.Test.YtcefobjfkmfmiaaDoorIrGcD
set_option linter.unusedSimpArgs false
set_option linter.unusedVariables false
set_option linter.unusedSectionVars false
set_option maxRecDepth 20000
namespace Am
open Go.Proofs
/-! ### Blocks as two numbers -/
theorem getI2_0 {x y:Int}:getI [x,y] 0=x:=by simp[getI]
theorem getI2_1 {x y:Int}:getI [x,y] 1=y:=by simp[getI]
def ofS (b:List Int) (h:Int×Int) (i:Nat):Int×Int:=(bOr .u64 (iShl .u64 h.1 8) (getI b i),bOr .u64 (iShl .u64 h.2 8) (getI b (8+i)))
def ofF (b:List Int):Int×Int:=itr (ofS b) (0,0) 8
def preOf (ds:List D):Prop:=∃b:List Int,ds=[.v (.ints .u8 b)]∧B16 b
def F83:List D→Out
  | [.v (.ints _ b)]=>.one (.v (.ints .u64 [(ofF b).1,(ofF b).2]))
  | _=>bad
def s83:Summ:=sData [.v] preOf F83
theorem wrap64 {x:Int} (h0:0≤x) (h:x<256):Go.IntKind.u64.wrap x=x:=by rw[wrap_u64];omega
set_option maxHeartbeats 2000000 in
theorem ok83 {g:List Blk} [Ge gl g]:SumOK Tryd.prog g 83 s83∧SumAbs s83:=by
  refine fsumA (l:=[]) mixed gl_plain rfl Tryd.func83 comp83 compR83 nt83 (by simp) fun ds ⟨b,hd,hb⟩ hA=>?_
  subst hd
  have hbl:=hb.1
  have hF:F83 [.v (.ints .u8 b)]=.one (.v (.ints .u64 [(ofF b).1,(ofF b).2])):=rfl
  have sb:sub b 0 16=b:=sub_zero hbl
  simp only[ir83,rs83,gl,hF,hbl,sb,sub_zero,qdb,qai,List.length_cons,List.length_nil,Nat.reduceAdd,Nat.le_refl,Nat.reduceLeDiff,Nat.reduceLT,true_and,and_true,↓evA,evB,evs,evp,mkB,repB,blen,↓retQ,res,resAll,resOne,kill,apartOk,exp,injV,injB,pur,purs,purR,pursR,List.reduceReplicate,Nat.reduceMul,Nat.reduceSub,Nat.reduceEqDiff,Int.reduceToNat,Int.reduceLE,Int.reduceLT,Int.reduceEq,reduceCtorEq,↓reduceIte]
  refine awp_loopA (n:=29) hA [1,2,3,5] (by decide +kernel) (fun i:Nat=>[.ptr 4 0,.ptr 5 0,.ptr 6 0,.int .i64 i])
    (fun i=>[.ints true .u64 roots,.dead,.dead,.dead,.ints false .u8 b,.ints false .u64 [0,0],.ints false .u64 [(itr (ofS b) (0,0) i).1,(itr (ofS b) (0,0) i).2]]) (fun i=>i≤8) (fun i=>8-i) 0 ?_ (by omega) ?_
  · refine Hd.same ?_
    simp only[itr,List.map_cons,List.map_nil,Nat.reduceLT,nth_asl,look_cons,look_nil,reduceCtorEq,↓reduceIte,Nat.reduceEqDiff,Int.cast_ofNat_Int,List.append_nil,List.cons_append,List.nil_append,asl_length,and_true,true_and,Nat.zero_add,Nat.add_zero,Nat.reduceAdd,qcz,qc0,List.reduceReplicate]
  intro i hi K hK
  by_cases hlt:i<8
  · have c1:(i:Int)<8:=by omega
    have wi:Go.IntKind.i64.wrap ((i:Int)+1)=((i+1:Nat):Int):=by rw[wrap_i64];omega
    have w8:Go.IntKind.i64.wrap (8+(i:Int))=((8+i:Nat):Int):=by rw[wrap_i64];omega
    have hx:itr (ofS b) (0,0) (i+1)=ofS b (itr (ofS b) (0,0) i) i:=rfl
    obtain⟨h,hh⟩:∃h,itr (ofS b) (0,0) i=h:=⟨_,rfl⟩
    rw[hh]at hx
    rw[hh]
    have b1:i<16:=by omega
    have b2:8+i<16:=by omega
    have g1:=hb.2.all (by decide) i
    have g2:=hb.2.all (by decide) (8+i)
    have v1:=wrap64 g1.1 g1.2
    have v2:=wrap64 g2.1 g2.2
    simp only[c1,wi,w8,hbl,b1,b2,v1,v2,getI2_0,getI2_1,sub_zero,qdb,qai,List.length_cons,List.length_nil,Nat.reduceAdd,Nat.le_refl,Nat.reduceLeDiff,Nat.reduceLT,true_and,and_true,↓evA,evB,evs,evp,mkB,repB,blen,↓retQ,res,resAll,resOne,kill,apartOk,exp,injV,injB,pur,purs,purR,pursR,List.reduceReplicate,Nat.reduceMul,Nat.reduceSub,Nat.reduceEqDiff,Int.reduceToNat,Int.reduceLE,Int.reduceLT,Int.reduceEq,reduceCtorEq,↓reduceIte]
    repeat(refine And.intro (by omega) ?_)
    refine⟨i+1,hK _ (by omega) (by omega),Hd.same ?_⟩
    simp only[hx,ofS,List.map_cons,List.map_nil,Nat.reduceLT,nth_asl,look_cons,look_nil,reduceCtorEq,↓reduceIte,Nat.reduceEqDiff,Int.cast_ofNat_Int,List.append_nil,List.cons_append,List.nil_append,asl_length,and_true,true_and,Nat.zero_add,Nat.add_zero,Nat.reduceAdd,qcz,qc0,List.reduceReplicate]
  obtain rfl:i=8:=by omega
  have c1:¬((8:Nat):Int)<8:=by omega
  have hx:itr (ofS b) (0,0) 8=ofF b:=rfl
  rw[hx]
  obtain⟨h,hh⟩:∃h,ofF b=h:=⟨_,rfl⟩
  rw[hh]
  simp only[c1,sub_zero,qdb,qai,List.length_cons,List.length_nil,Nat.reduceAdd,Nat.le_refl,Nat.reduceLeDiff,Nat.reduceLT,true_and,and_true,↓evA,evB,evs,evp,mkB,repB,blen,↓retQ,res,resAll,resOne,kill,apartOk,exp,injV,injB,pur,purs,purR,pursR,List.reduceReplicate,Nat.reduceMul,Nat.reduceSub,Nat.reduceEqDiff,Int.reduceToNat,Int.reduceLE,Int.reduceLT,Int.reduceEq,reduceCtorEq,↓reduceIte]
  repeat(refine And.intro (by omega) ?_)
  simp only[out,outs,out1,pur,and_self]
def blkS (x y:Int) (s:List Int) (i:Nat):List Int:=(s.set i (Go.IntKind.u8.wrap (iShr .u64 x ((56-8*i:Nat):Int)))).set (8+i) (Go.IntKind.u8.wrap (iShr .u64 y ((56-8*i:Nat):Int)))
def blkF (x y:Int):List Int:=itr (blkS x y) z16 8
def preHalf (ds:List D):Prop:=∃x y:Int,ds=[.v (.ints .u64 [x,y])]
def F85:List D→Out
  | [.v (.ints _ [x,y])]=>.one (.v (.ints .u8 (blkF x y)))
  | _=>bad
def s85:Summ:=sData [.v] preHalf F85
theorem w8_bd (x:Int):0≤Go.IntKind.u8.wrap x∧Go.IntKind.u8.wrap x<256:=by rw[wrap_u8];omega
theorem blkS_ok {x y:Int} (n:Nat):B16 (itr (blkS x y) z16 n) :=
  itr_inv (fun _ (s:List Int)=>B16 s) ⟨rfl,fun x hx=>by rw[(List.mem_replicate.1 hx).2];decide⟩ (fun n s hs =>
    ⟨by simp[blkS,hs.1],(hs.2.set _ (w8_bd _).1 (w8_bd _).2).set _ (w8_bd _).1 (w8_bd _).2⟩) n
set_option maxHeartbeats 2000000 in
theorem ok85 {g:List Blk} [Ge gl g]:SumOK Tryd.prog g 85 s85∧SumAbs s85:=by
  refine fsumA (l:=[]) mixed gl_plain rfl Tryd.func85 comp85 compR85 nt85 (by simp) fun ds ⟨x,y,hd⟩ hA=>?_
  subst hd
  have hF:F85 [.v (.ints .u64 [x,y])]=.one (.v (.ints .u8 (blkF x y))):=rfl
  have s2:sub [x,y] 0 2=[x,y]:=rfl
  simp only[ir85,rs85,gl,hF,s2,sub_zero,qdb,qai,List.length_cons,List.length_nil,Nat.reduceAdd,Nat.le_refl,Nat.reduceLeDiff,Nat.reduceLT,true_and,and_true,↓evA,evB,evs,evp,mkB,repB,blen,↓retQ,res,resAll,resOne,kill,apartOk,exp,injV,injB,pur,purs,purR,pursR,List.reduceReplicate,Nat.reduceMul,Nat.reduceSub,Nat.reduceEqDiff,Int.reduceToNat,Int.reduceLE,Int.reduceLT,Int.reduceEq,reduceCtorEq,↓reduceIte]
  refine awp_loopA (n:=29) hA [1,2,3,5] (by decide +kernel) (fun i:Nat=>[.ptr 4 0,.ptr 5 0,.ptr 6 0,.int .i64 i])
    (fun i=>[.ints true .u64 roots,.dead,.dead,.dead,.ints false .u64 [x,y],.ints false .u8 [0,0,0,0,0,0,0,0,0,0,0,0,0,0,0,0],.ints false .u8 (itr (blkS x y) z16 i)]) (fun i=>i≤8) (fun i=>8-i) 0 ?_ (by omega) ?_
  · refine Hd.same ?_
    simp only[itr,z16,List.map_cons,List.map_nil,Nat.reduceLT,nth_asl,look_cons,look_nil,reduceCtorEq,↓reduceIte,Nat.reduceEqDiff,Int.cast_ofNat_Int,List.append_nil,List.cons_append,List.nil_append,asl_length,and_true,true_and,Nat.zero_add,Nat.add_zero,Nat.reduceAdd,qcz,qc0,List.reduceReplicate]
  intro i hi K hK
  have hB:=blkS_ok (x:=x) (y:=y) i
  by_cases hlt:i<8
  · have c1:(i:Int)<8:=by omega
    have wi:Go.IntKind.i64.wrap ((i:Int)+1)=((i+1:Nat):Int):=by rw[wrap_i64];omega
    have w8:Go.IntKind.i64.wrap (8+(i:Int))=((8+i:Nat):Int):=by rw[wrap_i64];omega
    have wm:Go.IntKind.i64.wrap (8*(i:Int))=((8*i:Nat):Int):=by rw[wrap_i64];omega
    have ws:Go.IntKind.i64.wrap (56-((8*i:Nat):Int))=((56-8*i:Nat):Int):=by rw[wrap_i64];omega
    have hx:itr (blkS x y) z16 (i+1)=blkS x y (itr (blkS x y) z16 i) i:=rfl
    obtain⟨s,hh⟩:∃s,itr (blkS x y) z16 i=s:=⟨_,rfl⟩
    rw[hh]at hx hB
    rw[hh]
    have hl:=hB.1
    have b1:i<16:=by omega
    have b2:8+i<16:=by omega
    simp only[c1,wi,w8,wm,ws,hl,b1,b2,getI2_0,getI2_1,List.length_set,sub_zero,qdb,qai,List.length_cons,List.length_nil,Nat.reduceAdd,Nat.le_refl,Nat.reduceLeDiff,Nat.reduceLT,true_and,and_true,↓evA,evB,evs,evp,mkB,repB,blen,↓retQ,res,resAll,resOne,kill,apartOk,exp,injV,injB,pur,purs,purR,pursR,List.reduceReplicate,Nat.reduceMul,Nat.reduceSub,Nat.reduceEqDiff,Int.reduceToNat,Int.reduceLE,Int.reduceLT,Int.reduceEq,reduceCtorEq,↓reduceIte]
    repeat(refine And.intro (by omega) ?_)
    refine⟨i+1,hK _ (by omega) (by omega),Hd.same ?_⟩
    simp only[hx,blkS,List.map_cons,List.map_nil,Nat.reduceLT,nth_asl,look_cons,look_nil,reduceCtorEq,↓reduceIte,Nat.reduceEqDiff,Int.cast_ofNat_Int,List.append_nil,List.cons_append,List.nil_append,asl_length,and_true,true_and,Nat.zero_add,Nat.add_zero,Nat.reduceAdd,qcz,qc0,List.reduceReplicate]
  obtain rfl:i=8:=by omega
  have c1:¬((8:Nat):Int)<8:=by omega
  have hx:itr (blkS x y) z16 8=blkF x y:=rfl
  rw[hx]at hB ⊢
  obtain⟨h,hh⟩:∃h,blkF x y=h:=⟨_,rfl⟩
  rw[hh]at hB ⊢
  have hl:=hB.1
  have sh:sub h 0 16=h:=sub_zero hl
  have ph:spl [0,0,0,0,0,0,0,0,0,0,0,0,0,0,0,0] 0 h=h:=qdb (by simp[hl])
  simp only[c1,hl,sh,ph,sub_zero,qdb,qai,List.length_cons,List.length_nil,Nat.reduceAdd,Nat.le_refl,Nat.reduceLeDiff,Nat.reduceLT,true_and,and_true,↓evA,evB,evs,evp,mkB,repB,blen,↓retQ,res,resAll,resOne,kill,apartOk,exp,injV,injB,pur,purs,purR,pursR,List.reduceReplicate,Nat.reduceMul,Nat.reduceSub,Nat.reduceEqDiff,Int.reduceToNat,Int.reduceLE,Int.reduceLT,Int.reduceEq,reduceCtorEq,↓reduceIte]
  repeat(refine And.intro (by omega) ?_)
  simp only[out,outs,out1,pur,and_self]
/-! ### The product -/
def tmB (x y:Int) (i:Nat):Int:=bAnd .u64 (iShr .u64 (if 63<i then y else x) ((63-i%64:Nat):Int)) 1
def tmS (x y:Int) (s:(Int×Int)×(Int×Int)) (i:Nat):(Int×Int)×(Int×Int) :=
  let m:=Go.IntKind.u64.wrap (0-tmB x y i)
  let l:=Go.IntKind.u64.wrap (0-bAnd .u64 s.2.2 1)
  ((bXor .u64 s.1.1 (bAnd .u64 s.2.1 m),bXor .u64 s.1.2 (bAnd .u64 s.2.2 m)),
   (bXor .u64 (iShr .u64 s.2.1 1) (bAnd .u64 16212958658533785600 l),bOr .u64 (iShr .u64 s.2.2 1) (iShl .u64 s.2.1 63)))
def tmI (x y a b:Int) (n:Nat):(Int×Int)×(Int×Int):=itr (tmS x y) ((0,0),(a,b)) n
def timF (x y a b:Int):Int×Int:=(tmI x y a b 128).1
def preHalf2 (ds:List D):Prop:=∃x y a b:Int,ds=[.v (.ints .u64 [x,y]),.v (.ints .u64 [a,b])]
def F84:List D→Out
  | [.v (.ints _ [x,y]),.v (.ints _ [a,b])]=>.one (.v (.ints .u64 [(timF x y a b).1,(timF x y a b).2]))
  | _=>bad
def s84:Summ:=sData [.v,.v] preHalf2 F84
set_option maxHeartbeats 2000000 in
theorem ok84 {g:List Blk} [Ge gl g]:SumOK Tryd.prog g 84 s84∧SumAbs s84:=by
  refine fsumA (l:=[]) mixed gl_plain rfl Tryd.func84 comp84 compR84 nt84 (by simp) fun ds ⟨x,y,a,b,hd⟩ hA=>?_
  subst hd
  have hF:F84 [.v (.ints .u64 [x,y]),.v (.ints .u64 [a,b])]=.one (.v (.ints .u64 [(timF x y a b).1,(timF x y a b).2])):=rfl
  have s2:sub [x,y] 0 2=[x,y]:=rfl
  have s3:sub [a,b] 0 2=[a,b]:=rfl
  simp only[ir84,rs84,gl,hF,s2,s3,sub_zero,qdb,qai,List.length_cons,List.length_nil,Nat.reduceAdd,Nat.le_refl,Nat.reduceLeDiff,Nat.reduceLT,true_and,and_true,↓evA,evB,evs,evp,mkB,repB,blen,↓retQ,res,resAll,resOne,kill,apartOk,exp,injV,injB,pur,purs,purR,pursR,List.reduceReplicate,Nat.reduceMul,Nat.reduceSub,Nat.reduceEqDiff,Int.reduceToNat,Int.reduceLE,Int.reduceLT,Int.reduceEq,reduceCtorEq,↓reduceIte]
  refine awp_loopA (n:=67) hA [2,3,4,5,9] (by decide +kernel) (fun i:Nat=>[.ptr 4 0,.ptr 5 0,.ptr 6 0,.ptr 7 0,.int .i64 i])
    (fun i=>[.ints true .u64 roots,.dead,.dead,.dead,.ints false .u64 [x,y],.ints false .u64 [(tmI x y a b i).2.1,(tmI x y a b i).2.2],.ints false .u64 [0,0],.ints false .u64 [(tmI x y a b i).1.1,(tmI x y a b i).1.2]]) (fun i=>i≤128) (fun i=>128-i) 0 ?_ (by omega) ?_
  · refine Hd.same ?_
    simp only[tmI,itr,List.map_cons,List.map_nil,Nat.reduceLT,nth_asl,look_cons,look_nil,reduceCtorEq,↓reduceIte,Nat.reduceEqDiff,Int.cast_ofNat_Int,List.append_nil,List.cons_append,List.nil_append,asl_length,and_true,true_and,Nat.zero_add,Nat.add_zero,Nat.reduceAdd,qcz,qc0,List.reduceReplicate]
  intro i hi K hK
  by_cases hlt:i<128
  · have c1:(i:Int)<128:=by omega
    have wi:Go.IntKind.i64.wrap ((i:Int)+1)=((i+1:Nat):Int):=by rw[wrap_i64];omega
    have ws:Go.IntKind.i64.wrap (63-((i%64:Nat):Int))=((63-i%64:Nat):Int):=by rw[wrap_i64];omega
    have n64:¬(64:Int)=0:=by decide
    have hx:tmI x y a b (i+1)=tmS x y (tmI x y a b i) i:=rfl
    obtain⟨s,hh⟩:∃s,tmI x y a b i=s:=⟨_,rfl⟩
    rw[hh]at hx
    rw[hh]
    by_cases h63:63<i
    · have c2:(63:Int)<(i:Int):=by omega
      simp only[tmS,tmB,h63,if_true]at hx
      simp only[c1,c2,wi,ws,n64,tmod64,getI2_0,getI2_1,sub_zero,qdb,qai,List.length_cons,List.length_nil,Nat.reduceAdd,Nat.le_refl,Nat.reduceLeDiff,Nat.reduceLT,true_and,and_true,↓evA,evB,evs,evp,mkB,repB,blen,↓retQ,res,resAll,resOne,kill,apartOk,exp,injV,injB,pur,purs,purR,pursR,List.reduceReplicate,Nat.reduceMul,Nat.reduceSub,Nat.reduceEqDiff,Int.reduceToNat,Int.reduceLE,Int.reduceLT,Int.reduceEq,reduceCtorEq,↓reduceIte]
      repeat(refine And.intro (by omega) ?_)
      refine⟨i+1,hK _ (by omega) (by omega),Hd.same ?_⟩
      simp only[hx,List.map_cons,List.map_nil,Nat.reduceLT,nth_asl,look_cons,look_nil,reduceCtorEq,↓reduceIte,Nat.reduceEqDiff,Int.cast_ofNat_Int,List.append_nil,List.cons_append,List.nil_append,asl_length,and_true,true_and,Nat.zero_add,Nat.add_zero,Nat.reduceAdd,qcz,qc0,List.reduceReplicate]
    · have c2:¬(63:Int)<(i:Int):=by omega
      simp only[tmS,tmB,h63,if_false]at hx
      simp only[c1,c2,wi,ws,n64,tmod64,getI2_0,getI2_1,sub_zero,qdb,qai,List.length_cons,List.length_nil,Nat.reduceAdd,Nat.le_refl,Nat.reduceLeDiff,Nat.reduceLT,true_and,and_true,↓evA,evB,evs,evp,mkB,repB,blen,↓retQ,res,resAll,resOne,kill,apartOk,exp,injV,injB,pur,purs,purR,pursR,List.reduceReplicate,Nat.reduceMul,Nat.reduceSub,Nat.reduceEqDiff,Int.reduceToNat,Int.reduceLE,Int.reduceLT,Int.reduceEq,reduceCtorEq,↓reduceIte]
      repeat(refine And.intro (by omega) ?_)
      refine⟨i+1,hK _ (by omega) (by omega),Hd.same ?_⟩
      simp only[hx,List.map_cons,List.map_nil,Nat.reduceLT,nth_asl,look_cons,look_nil,reduceCtorEq,↓reduceIte,Nat.reduceEqDiff,Int.cast_ofNat_Int,List.append_nil,List.cons_append,List.nil_append,asl_length,and_true,true_and,Nat.zero_add,Nat.add_zero,Nat.reduceAdd,qcz,qc0,List.reduceReplicate]
  obtain rfl:i=128:=by omega
  have c1:¬((128:Nat):Int)<128:=by omega
  have hx:(tmI x y a b 128).1=timF x y a b:=rfl
  rw[hx]
  obtain⟨h,hh⟩:∃h,timF x y a b=h:=⟨_,rfl⟩
  rw[hh]
  simp only[c1,sub_zero,qdb,qai,List.length_cons,List.length_nil,Nat.reduceAdd,Nat.le_refl,Nat.reduceLeDiff,Nat.reduceLT,true_and,and_true,↓evA,evB,evs,evp,mkB,repB,blen,↓retQ,res,resAll,resOne,kill,apartOk,exp,injV,injB,pur,purs,purR,pursR,List.reduceReplicate,Nat.reduceMul,Nat.reduceSub,Nat.reduceEqDiff,Int.reduceToNat,Int.reduceLE,Int.reduceLT,Int.reduceEq,reduceCtorEq,↓reduceIte]
  repeat(refine And.intro (by omega) ?_)
  simp only[out,outs,out1,pur,and_self]
/-! ### A block of a nonce and a number -/
def ctrS (n:Int) (s:List Int) (k:Nat):List Int:=s.set (12+k) (Go.IntKind.u8.wrap (iShr .u32 n ((24-8*k:Nat):Int)))
def ctrF (c:List Int) (n:Int):List Int:=itr (ctrS n) (c++[0,0,0,0]) 4
def B12 (b:List Int):Prop:=b.length=12∧Dig 256 b
def preCtr (ds:List D):Prop:=∃(c:List Int) (n:Int),ds=[.v (.ints .u8 c),.v (.int .u32 n)]∧B12 c
def F77:List D→Out
  | [.v (.ints _ c),.v (.int _ n)]=>.one (.v (.ints .u8 (ctrF c n)))
  | _=>bad
def s77:Summ:=sData [.v,.v] preCtr F77
theorem ctrS_ok {c:List Int} {n:Int} (h:B12 c) (m:Nat):B16 (itr (ctrS n) (c++[0,0,0,0]) m) :=
  itr_inv (fun _ (s:List Int)=>B16 s) ⟨by simp[h.1],h.2.append (fun x hx=>by simp at hx;omega)⟩ (fun n s hs=>⟨by simp[ctrS,hs.1],hs.2.set _ (w8_bd _).1 (w8_bd _).2⟩) m
set_option maxHeartbeats 2000000 in
theorem ok77 {g:List Blk} [Ge gl g]:SumOK Tryd.prog g 77 s77∧SumAbs s77:=by
  refine fsumA (l:=[]) mixed gl_plain rfl Tryd.func77 comp77 compR77 nt77 (by simp) fun ds ⟨c,n,hd,hc⟩ hA=>?_
  subst hd
  have hcl:=hc.1
  have hF:F77 [.v (.ints .u8 c),.v (.int .u32 n)]=.one (.v (.ints .u8 (ctrF c n))):=rfl
  have sc:sub c 0 12=c:=sub_zero hcl
  have pc:spl [0,0,0,0,0,0,0,0,0,0,0,0,0,0,0,0] 0 c=c++[0,0,0,0]:=by simp[spl,hcl]
  have tc:c.take 12=c:=List.take_of_length_le (by omega)
  simp only[ir77,rs77,gl,hF,sc,hcl,pc,tc,show min 12 16=12 from rfl,sub_zero,qdb,qai,List.length_cons,List.length_nil,Nat.reduceAdd,Nat.le_refl,Nat.reduceLeDiff,Nat.reduceLT,true_and,and_true,↓evA,evB,evs,evp,mkB,repB,blen,↓retQ,res,resAll,resOne,kill,apartOk,exp,injV,injB,pur,purs,purR,pursR,List.reduceReplicate,Nat.reduceMul,Nat.reduceSub,Nat.reduceEqDiff,Int.reduceToNat,Int.reduceLE,Int.reduceLT,Int.reduceEq,reduceCtorEq,↓reduceIte]
  refine awp_loopA (n:=24) hA [1,4,5,10] (by decide +kernel) (fun i:Nat=>[.int .u32 n,.ptr 5 0,.ptr 6 0,.int .i64 i])
    (fun i=>[.ints true .u64 roots,.dead,.dead,.dead,.ints false .u8 c,.ints false .u8 [0,0,0,0,0,0,0,0,0,0,0,0,0,0,0,0],.ints false .u8 (itr (ctrS n) (c++[0,0,0,0]) i)]) (fun i=>i≤4) (fun i=>4-i) 0 ?_ (by omega) ?_
  · refine Hd.same ?_
    simp only[itr,List.map_cons,List.map_nil,Nat.reduceLT,nth_asl,look_cons,look_nil,reduceCtorEq,↓reduceIte,Nat.reduceEqDiff,Int.cast_ofNat_Int,List.append_nil,List.cons_append,List.nil_append,asl_length,and_true,true_and,Nat.zero_add,Nat.add_zero,Nat.reduceAdd,qcz,qc0,List.reduceReplicate]
  intro i hi K hK
  have hB:=ctrS_ok (n:=n) hc i
  by_cases hlt:i<4
  · have c1:(i:Int)<4:=by omega
    have wi:Go.IntKind.i64.wrap ((i:Int)+1)=((i+1:Nat):Int):=by rw[wrap_i64];omega
    have w8:Go.IntKind.i64.wrap (12+(i:Int))=((12+i:Nat):Int):=by rw[wrap_i64];omega
    have wm:Go.IntKind.i64.wrap (8*(i:Int))=((8*i:Nat):Int):=by rw[wrap_i64];omega
    have ws:Go.IntKind.i64.wrap (24-((8*i:Nat):Int))=((24-8*i:Nat):Int):=by rw[wrap_i64];omega
    have hx:itr (ctrS n) (c++[0,0,0,0]) (i+1)=ctrS n (itr (ctrS n) (c++[0,0,0,0]) i) i:=rfl
    obtain⟨s,hh⟩:∃s,itr (ctrS n) (c++[0,0,0,0]) i=s:=⟨_,rfl⟩
    rw[hh]at hx hB
    rw[hh]
    have hl:=hB.1
    have b2:12+i<16:=by omega
    simp only[c1,wi,w8,wm,ws,hl,b2,List.length_set,sub_zero,qdb,qai,List.length_cons,List.length_nil,Nat.reduceAdd,Nat.le_refl,Nat.reduceLeDiff,Nat.reduceLT,true_and,and_true,↓evA,evB,evs,evp,mkB,repB,blen,↓retQ,res,resAll,resOne,kill,apartOk,exp,injV,injB,pur,purs,purR,pursR,List.reduceReplicate,Nat.reduceMul,Nat.reduceSub,Nat.reduceEqDiff,Int.reduceToNat,Int.reduceLE,Int.reduceLT,Int.reduceEq,reduceCtorEq,↓reduceIte]
    repeat(refine And.intro (by omega) ?_)
    refine⟨i+1,hK _ (by omega) (by omega),Hd.same ?_⟩
    simp only[hx,ctrS,List.map_cons,List.map_nil,Nat.reduceLT,nth_asl,look_cons,look_nil,reduceCtorEq,↓reduceIte,Nat.reduceEqDiff,Int.cast_ofNat_Int,List.append_nil,List.cons_append,List.nil_append,asl_length,and_true,true_and,Nat.zero_add,Nat.add_zero,Nat.reduceAdd,qcz,qc0,List.reduceReplicate]
  obtain rfl:i=4:=by omega
  have c1:¬((4:Nat):Int)<4:=by omega
  have hx:itr (ctrS n) (c++[0,0,0,0]) 4=ctrF c n:=rfl
  rw[hx]at hB ⊢
  obtain⟨h,hh⟩:∃h,ctrF c n=h:=⟨_,rfl⟩
  rw[hh]at hB ⊢
  have hl:=hB.1
  have sh:sub h 0 16=h:=sub_zero hl
  have ph:spl [0,0,0,0,0,0,0,0,0,0,0,0,0,0,0,0] 0 h=h:=qdb (by simp[hl])
  simp only[c1,hl,sh,ph,sub_zero,qdb,qai,List.length_cons,List.length_nil,Nat.reduceAdd,Nat.le_refl,Nat.reduceLeDiff,Nat.reduceLT,true_and,and_true,↓evA,evB,evs,evp,mkB,repB,blen,↓retQ,res,resAll,resOne,kill,apartOk,exp,injV,injB,pur,purs,purR,pursR,List.reduceReplicate,Nat.reduceMul,Nat.reduceSub,Nat.reduceEqDiff,Int.reduceToNat,Int.reduceLE,Int.reduceLT,Int.reduceEq,reduceCtorEq,↓reduceIte]
  repeat(refine And.intro (by omega) ?_)
  simp only[out,outs,out1,pur,and_self]
end Am
set_option maxRecDepth 20000
namespace Am
open Go.Proofs
/-! ### The hash of two texts -/
def chk (xs:List Int) (m:Nat):List Int:=spl z16 0 (sub xs (16*m) 16)
def hstS (h:Int×Int) (xs:List Int) (y:Int×Int) (m:Nat):Int×Int :=
  timF (bXor .u64 y.1 (ofF (chk xs m)).1) (bXor .u64 y.2 (ofF (chk xs m)).2) h.1 h.2
def nbl (xs:List Int):Nat:=(xs.length+15)/16
def hshB (h:Int×Int) (y:Int×Int) (xs:List Int):Int×Int:=itr (hstS h xs) y (nbl xs)
def bitl (xs:List Int):Int:=Go.IntKind.u64.wrap (Go.IntKind.u64.wrap xs.length*8)
def pP (a b:List Int) (n:Nat):List Int:=if n=0 then a else b
def hsS (h:Int×Int) (a b:List Int) (s:(Int×Int)×(Int×Int)) (n:Nat):(Int×Int)×(Int×Int) :=
  (hshB h s.1 (pP a b n),if n=0 then (bitl (pP a b n),s.2.2)else (s.2.1,bitl (pP a b n)))
def hsI (h:Int×Int) (a b:List Int) (n:Nat):(Int×Int)×(Int×Int):=itr (hsS h a b) ((0,0),(0,0)) n
def fin2 (h:Int×Int) (s:(Int×Int)×(Int×Int)):Int×Int:=timF (bXor .u64 s.1.1 s.2.1) (bXor .u64 s.1.2 s.2.2) h.1 h.2
def hashF (key a b:List Int):List Int:=blkF (fin2 (ofF key) (hsI (ofF key) a b 2)).1 (fin2 (ofF key) (hsI (ofF key) a b 2)).2
theorem sub_dig' {xs:List Int} {o n:Nat} (h:Dig 256 xs):Dig 256 (sub xs o n):=fun x hx=>h x (List.mem_of_mem_drop (List.mem_of_mem_take hx))
theorem chk_ok {xs:List Int} (h:Dig 256 xs) (m:Nat):B16 (chk xs m):=by
  have hz:Dig 256 z16:=fun x hx=>by rw[(List.mem_replicate.1 hx).2];decide
  have hs:Dig 256 (sub xs (16*m) 16):=sub_dig' h
  refine⟨?_,?_⟩
  · simp[chk,spl,sub,z16];omega
  · intro x hx
    simp only[chk,spl,List.mem_append]at hx
    rcases hx with hx | hx | hx
    · exact hz x (List.mem_of_mem_take hx)
    · exact hs x hx
    · exact hz x (List.mem_of_mem_drop hx)
def preHsh (ds:List D):Prop:=∃key a b:List Int,ds=[.v (.ints .u8 key),.v (.rcs 1 2 [.rsl 1 a.length .u8 a,.rsl 1 b.length .u8 b])]∧B16 key∧Dig 256 a∧Dig 256 b∧a.length≤549755813888∧b.length≤549755813888
def F78:List D→Out
  | [.v (.ints _ key),.v (.rcs _ _ [.rsl _ _ _ a,.rsl _ _ _ b])]=>.one (.v (.ints .u8 (hashF key a b)))
  | _=>bad
def s78:Summ:=sData [.v,.r] preHsh F78
theorem blkF_ok (x y:Int):B16 (blkF x y):=blkS_ok 8
set_option maxHeartbeats 4000000 in
theorem ok78 {g:List Blk} [Ge gl g]:SumOK Tryd.prog g 78 s78∧SumAbs s78:=by
  refine fsumA (l:=[(83,s83),(84,s84),(85,s85)]) mixed gl_plain rfl Tryd.func78 comp78 compR78 nt78 (by simp only[List.mem_cons,List.not_mem_nil,or_false,forall_eq_or_imp,forall_eq];exact⟨ok83,ok84,ok85⟩) fun ds ⟨key,a,b,hd,hk,ha,hb,hal,hbl⟩ hA=>?_
  subst hd
  have hkl:=hk.1
  have hF:F78 [.v (.ints .u8 key),.v (.rcs 1 2 [.rsl 1 a.length .u8 a,.rsl 1 b.length .u8 b])]=.one (.v (.ints .u8 (hashF key a b))):=rfl
  have sk:sub key 0 16=key:=sub_zero hkl
  have qk:preOf [.v (.ints .u8 key)]:=⟨_,rfl,hk⟩
  have fk:F83 [.v (.ints .u8 key)]=.one (.v (.ints .u64 [(ofF key).1,(ofF key).2])):=rfl
  have hnth:∀n,n<2→nth [.rsl 1 a.length .u8 a,.rsl 1 b.length .u8 b] n=.rsl 1 (pP a b n).length .u8 (pP a b n):=fun n hn=>by
    rcases (by omega:n=0∨n=1)with rfl | rfl<;>simp[nth,pP]
  have hP:∀n,Dig 256 (pP a b n)∧(pP a b n).length≤549755813888:=fun n=>by
    unfold pP;split
    · exact⟨ha,hal⟩
    · exact⟨hb,hbl⟩
  have hR:blkF (fin2 (ofF key) (hsI (ofF key) a b 2)).1 (fin2 (ofF key) (hsI (ofF key) a b 2)).2=hashF key a b:=rfl
  obtain⟨h,hh⟩:∃h,ofF key=h:=⟨_,rfl⟩
  rw[hh]at hR fk
  obtain⟨R,hRR⟩:∃R,hashF key a b=R:=⟨_,rfl⟩
  rw[hRR]at hR hF
  obtain⟨cs,hcs⟩:∃cs,[V.rsl 1 a.length .u8 a,.rsl 1 b.length .u8 b]=cs:=⟨_,rfl⟩
  have hcl:cs.length=2:=by rw[←hcs];rfl
  rw[hcs]at hF
  simp only[hcs]at hnth
  have s2:∀x y:Int,sub [x,y] 0 2=[x,y]:=fun _ _=>rfl
  have p2:∀x y u v:Int,spl [x,y] 0 [u,v]=[u,v]:=fun _ _ _ _=>rfl
  simp only[hcs,s83,s84,s85]
  simp only[ir78,rs78,gl,hF,sk,hkl,qk,fk,p2,sub_zero,qdb,qai,List.length_cons,List.length_nil,Nat.reduceAdd,Nat.le_refl,Nat.reduceLeDiff,Nat.reduceLT,true_and,and_true,↓evA,evB,evs,evp,mkB,repB,blen,↓retQ,res,resAll,resOne,kill,apartOk,exp,injV,injB,pur,purs,purR,pursR,List.reduceReplicate,Nat.reduceMul,Nat.reduceSub,Nat.reduceEqDiff,Int.reduceToNat,Int.reduceLE,Int.reduceLT,Int.reduceEq,reduceCtorEq,↓reduceIte]
  refine awp_loopA (n:=81) hA [4,5,6,7,16,17,18] (by decide +kernel) (fun n:Nat=>[.ptr 5 0,.ptr 6 0,.ptr 7 0,.ptr 8 0,.rcs 1 2 cs,.int .i64 2,.int .i64 n])
    (fun n=>[.ints true .u64 roots,.dead,.dead,.dead,.ints false .u8 key,.ints false .u8 [0,0,0,0,0,0,0,0,0,0,0,0,0,0,0,0],.ints false .u64 [(hsI h a b n).1.1,(hsI h a b n).1.2],.ints false .u64 [h.1,h.2],.ints false .u64 [(hsI h a b n).2.1,(hsI h a b n).2.2]]) (fun n=>n≤2) (fun n=>2-n) 0 ?_ (by omega) ?_
  · refine Hd.same ?_
    simp only[hsI,itr,show ((2:Nat):Int)=2 from rfl,List.map_cons,List.map_nil,Nat.reduceLT,nth_asl,look_cons,look_nil,reduceCtorEq,↓reduceIte,Nat.reduceEqDiff,Int.cast_ofNat_Int,List.append_nil,List.cons_append,List.nil_append,asl_length,and_true,true_and,Nat.zero_add,Nat.add_zero,Nat.reduceAdd,qcz,qc0,List.reduceReplicate]
  intro n hn K hK
  by_cases hlt:n<2
  · have c1:(n:Int)<2:=by omega
    have wi:Go.IntKind.i64.wrap ((n:Int)+1)=((n+1:Nat):Int):=by rw[wrap_i64];omega
    have hx:hsI h a b (n+1)=hsS h a b (hsI h a b n) n:=rfl
    obtain⟨s,hs⟩:∃s,hsI h a b n=s:=⟨_,rfl⟩
    rw[hs]at hx
    rw[hs]
    have hn1:=hnth n hlt
    obtain⟨hxd,hxl⟩:=hP n
    obtain⟨xs,hxs⟩:∃xs,pP a b n=xs:=⟨_,rfl⟩
    simp only[hsS,hxs]at hx
    rw[hxs]at hn1 hxd hxl
    simp only[s83,s84,s85]
    simp only[c1,hlt,hn1,hcl,sub_zero,qdb,qai,List.length_cons,List.length_nil,Nat.reduceAdd,Nat.le_refl,Nat.reduceLeDiff,Nat.reduceLT,true_and,and_true,↓evA,evB,evs,evp,mkB,repB,blen,↓retQ,res,resAll,resOne,kill,apartOk,exp,injV,injB,pur,purs,purR,pursR,List.reduceReplicate,Nat.reduceMul,Nat.reduceSub,Nat.reduceEqDiff,Int.reduceToNat,Int.reduceLE,Int.reduceLT,Int.reduceEq,reduceCtorEq,↓reduceIte]
    refine⟨by omega,?_⟩
    refine awp_loopA (n:=81) hA [4,5,6,7,8,9,10,16,17,18] (by decide +kernel) (fun m:Nat=>[.ptr 5 0,.ptr 6 0,.ptr 7 0,.ptr 8 0,.int .i64 n,.rsl 1 xs.length .u8 xs,.int .i64 ((16*m:Nat):Int),.rcs 1 2 cs,.int .i64 2,.int .i64 n])
      (fun m=>[.ints true .u64 roots,.dead,.dead,.dead,.ints false .u8 key,.ints false .u8 [0,0,0,0,0,0,0,0,0,0,0,0,0,0,0,0],.ints false .u64 [(itr (hstS h xs) s.1 m).1,(itr (hstS h xs) s.1 m).2],.ints false .u64 [h.1,h.2],.ints false .u64 [s.2.1,s.2.2]]) (fun m=>m≤nbl xs) (fun m=>nbl xs-m) 0 ?_ (by omega) ?_
    · refine Hd.same ?_
      simp only[itr,show ((16*0:Nat):Int)=0 from rfl,List.map_cons,List.map_nil,Nat.reduceLT,nth_asl,look_cons,look_nil,reduceCtorEq,↓reduceIte,Nat.reduceEqDiff,Int.cast_ofNat_Int,List.append_nil,List.cons_append,List.nil_append,asl_length,and_true,true_and,Nat.zero_add,Nat.add_zero,Nat.reduceAdd,qcz,qc0,List.reduceReplicate]
    intro m hm K2 hK2
    simp only[s83,s84,s85]
    unfold nbl at hm hK2
    by_cases hlm:16*m<xs.length
    · have c2:((16*m:Nat):Int)<(xs.length:Int):=by omega
      have w16:Go.IntKind.i64.wrap (((16*m:Nat):Int)+16)=((16*(m+1):Nat):Int):=by rw[wrap_i64];omega
      obtain⟨e,he⟩:∃e,min (16*(m+1)) xs.length=e:=⟨_,rfl⟩
      have hmin:min ((16*(m+1):Nat):Int) (xs.length:Int)=(e:Int):=by omega
      have e1:16*m≤e:=by omega
      have e2:e≤xs.length:=by omega
      have e3:e-16*m≤16:=by omega
      have hc:spl [0,0,0,0,0,0,0,0,0,0,0,0,0,0,0,0] 0 ((sub xs (16*m) (e-16*m)).take (min (e-16*m) 16))=chk xs m:=by
        have:(sub xs (16*m) (e-16*m)).take (min (e-16*m) 16)=sub xs (16*m) 16:=by
          simp only[sub,List.take_take]
          by_cases h:16*(m+1)≤xs.length
          · congr 1;omega
          · rw[List.take_of_length_le (by simp;omega),List.take_of_length_le (by simp;omega)]
        rw[this];rfl
      have hC:=chk_ok hxd m
      have hst:itr (hstS h xs) s.1 (m+1)=hstS h xs (itr (hstS h xs) s.1 m) m:=rfl
      obtain⟨y,hy⟩:∃y,itr (hstS h xs) s.1 m=y:=⟨_,rfl⟩
      rw[hy]at hst ⊢
      have ft:F84 [.v (.ints .u64 [bXor .u64 y.1 (ofF (chk xs m)).1,bXor .u64 y.2 (ofF (chk xs m)).2]),.v (.ints .u64 [h.1,h.2])]=.one (.v (.ints .u64 [(hstS h xs y m).1,(hstS h xs y m).2])):=rfl
      obtain⟨y',hy'⟩:∃y',hstS h xs y m=y':=⟨_,rfl⟩
      rw[hy']at hst ft
      have fo:F83 [.v (.ints .u8 (chk xs m))]=.one (.v (.ints .u64 [(ofF (chk xs m)).1,(ofF (chk xs m)).2])):=rfl
      obtain⟨C,hCe⟩:∃C,chk xs m=C:=⟨_,rfl⟩
      rw[hCe]at hc hC ft fo
      have hCl:=hC.1
      have sC:sub C 0 16=C:=sub_zero hCl
      have qC:preOf [.v (.ints .u8 C)]:=⟨_,rfl,hC⟩
      obtain⟨o,ho⟩:∃o,ofF C=o:=⟨_,rfl⟩
      rw[ho]at ft fo
      have qt:preHalf2 [.v (.ints .u64 [bXor .u64 y.1 o.1,bXor .u64 y.2 o.2]),.v (.ints .u64 [h.1,h.2])]:=⟨_,_,_,_,rfl⟩
      have hl:∀l:List Int,(sub xs (16*m) (e-16*m)).length=l.length→True:=fun _ _=>trivial
      simp only[c2,w16,hmin,e1,e2,hc,hCl,sC,qC,fo,qt,ft,s2,p2,getI2_0,getI2_1,sub_zero,qdb,qai,List.length_cons,List.length_nil,Nat.reduceAdd,Nat.le_refl,Nat.reduceLeDiff,Nat.reduceLT,true_and,and_true,↓evA,evB,evs,evp,mkB,repB,blen,↓retQ,res,resAll,resOne,kill,apartOk,exp,injV,injB,pur,purs,purR,pursR,List.reduceReplicate,Nat.reduceMul,Nat.reduceSub,Nat.reduceEqDiff,Int.reduceToNat,Int.reduceLE,Int.reduceLT,Int.reduceEq,reduceCtorEq,↓reduceIte]
      repeat(refine And.intro (by omega) ?_)
      refine⟨m+1,hK2 _ (by omega) (by omega),Hd.of [0,1,2,3,4,5,6,7,8] (by decide) (by decide) (by simp) ?_⟩
      simp only[hst,gc,gcVs,gcV,posOf,gcH,gcB,Option.map_some,Option.map_none,List.replicate_zero,List.drop_zero,List.map_cons,List.map_nil,Nat.reduceLT,nth_asl,look_cons,look_nil,reduceCtorEq,↓reduceIte,Nat.reduceEqDiff,Int.cast_ofNat_Int,List.append_nil,List.cons_append,List.nil_append,asl_length,and_true,true_and,Nat.zero_add,Nat.add_zero,Nat.reduceAdd,qcz,qc0,List.reduceReplicate]
    · have hmn:m=nbl xs:=by unfold nbl;omega
      have c2:¬((16*m:Nat):Int)<(xs.length:Int):=by omega
      have hyy:itr (hstS h xs) s.1 m=hshB h s.1 xs:=by rw[hmn];rfl
      rw[hyy]
      obtain⟨y,hy⟩:∃y,hshB h s.1 xs=y:=⟨_,rfl⟩
      rw[hy]at hx ⊢
      have hw:Go.IntKind.u64.wrap (Go.IntKind.u64.wrap (xs.length:Int)*8)=bitl xs:=rfl
      by_cases h0:n=0
      · have c3:((n:Int)=0)=True:=eq_true (by omega)
        rw[if_pos h0]at hx
        simp only[c2,c3,wi,hw,sub_zero,qdb,qai,List.length_cons,List.length_nil,Nat.reduceAdd,Nat.le_refl,Nat.reduceLeDiff,Nat.reduceLT,true_and,and_true,↓evA,evB,evs,evp,mkB,repB,blen,↓retQ,res,resAll,resOne,kill,apartOk,exp,injV,injB,pur,purs,purR,pursR,List.reduceReplicate,Nat.reduceMul,Nat.reduceSub,Nat.reduceEqDiff,Int.reduceToNat,Int.reduceLE,Int.reduceLT,Int.reduceEq,reduceCtorEq,↓reduceIte]
        repeat(refine And.intro (by omega) ?_)
        refine⟨n+1,hK _ (by omega) (by omega),Hd.same ?_⟩
        simp only[hx,List.map_cons,List.map_nil,Nat.reduceLT,nth_asl,look_cons,look_nil,reduceCtorEq,↓reduceIte,Nat.reduceEqDiff,Int.cast_ofNat_Int,List.append_nil,List.cons_append,List.nil_append,asl_length,and_true,true_and,Nat.zero_add,Nat.add_zero,Nat.reduceAdd,qcz,qc0,List.reduceReplicate]
      · have c3:¬(n:Int)=0:=by omega
        rw[if_neg h0]at hx
        simp only[c2,c3,wi,hw,sub_zero,qdb,qai,List.length_cons,List.length_nil,Nat.reduceAdd,Nat.le_refl,Nat.reduceLeDiff,Nat.reduceLT,true_and,and_true,↓evA,evB,evs,evp,mkB,repB,blen,↓retQ,res,resAll,resOne,kill,apartOk,exp,injV,injB,pur,purs,purR,pursR,List.reduceReplicate,Nat.reduceMul,Nat.reduceSub,Nat.reduceEqDiff,Int.reduceToNat,Int.reduceLE,Int.reduceLT,Int.reduceEq,reduceCtorEq,↓reduceIte]
        repeat(refine And.intro (by omega) ?_)
        refine⟨n+1,hK _ (by omega) (by omega),Hd.same ?_⟩
        simp only[hx,List.map_cons,List.map_nil,Nat.reduceLT,nth_asl,look_cons,look_nil,reduceCtorEq,↓reduceIte,Nat.reduceEqDiff,Int.cast_ofNat_Int,List.append_nil,List.cons_append,List.nil_append,asl_length,and_true,true_and,Nat.zero_add,Nat.add_zero,Nat.reduceAdd,qcz,qc0,List.reduceReplicate]
  obtain rfl:n=2:=by omega
  have c1:¬((2:Nat):Int)<2:=by omega
  obtain⟨s,hs⟩:∃s,hsI h a b 2=s:=⟨_,rfl⟩
  rw[hs]at hR ⊢
  have ft:F84 [.v (.ints .u64 [bXor .u64 s.1.1 s.2.1,bXor .u64 s.1.2 s.2.2]),.v (.ints .u64 [h.1,h.2])]=.one (.v (.ints .u64 [(fin2 h s).1,(fin2 h s).2])):=rfl
  obtain⟨t,ht⟩:∃t,fin2 h s=t:=⟨_,rfl⟩
  rw[ht]at ft hR
  have qt:preHalf2 [.v (.ints .u64 [bXor .u64 s.1.1 s.2.1,bXor .u64 s.1.2 s.2.2]),.v (.ints .u64 [h.1,h.2])]:=⟨_,_,_,_,rfl⟩
  have qb:preHalf [.v (.ints .u64 [t.1,t.2])]:=⟨_,_,rfl⟩
  have fb:F85 [.v (.ints .u64 [t.1,t.2])]=.one (.v (.ints .u8 (blkF t.1 t.2))):=rfl
  have hB:=blkF_ok t.1 t.2
  rw[hR]at fb hB
  have hRl:=hB.1
  have sR:sub R 0 16=R:=sub_zero hRl
  have pR:spl [0,0,0,0,0,0,0,0,0,0,0,0,0,0,0,0] 0 R=R:=qdb (by simp[hRl])
  simp only[s83,s84,s85]
  simp only[c1,qt,ft,qb,fb,hRl,sR,pR,s2,p2,getI2_0,getI2_1,sub_zero,qdb,qai,List.length_cons,List.length_nil,Nat.reduceAdd,Nat.le_refl,Nat.reduceLeDiff,Nat.reduceLT,true_and,and_true,↓evA,evB,evs,evp,mkB,repB,blen,↓retQ,res,resAll,resOne,kill,apartOk,exp,injV,injB,pur,purs,purR,pursR,List.reduceReplicate,Nat.reduceMul,Nat.reduceSub,Nat.reduceEqDiff,Int.reduceToNat,Int.reduceLE,Int.reduceLT,Int.reduceEq,reduceCtorEq,↓reduceIte]
  repeat(refine And.intro (by omega) ?_)
  simp only[out,outs,out1,pur,and_self]
end Am
set_option maxRecDepth 20000
namespace Am
open Go.Proofs
/-! ### Bytes joined with others, one by one -/
def xorAt (f:Nat→Int):List Int→Nat→List Int
  | [],_=>[]
  | x::r,j=>bXor .u8 x (f j)::xorAt f r (j+1)
theorem xorAt_len {f:Nat→Int}:∀{b:List Int} {o:Nat},(xorAt f b o).length=b.length
  | [],_=>rfl
  | x::r,o=>by simp[xorAt,xorAt_len (b:=r)]
theorem xorAt_get {f:Nat→Int}:∀{b:List Int} {o j:Nat},j<b.length→getI (xorAt f b o) j=bXor .u8 (getI b j) (f (o+j))
  | [],_,j,h=>by simp at h
  | x::r,o,0,_=>by simp[xorAt,getI]
  | x::r,o,j+1,h=>by
    have:=xorAt_get (f:=f) (b:=r) (o:=o+1) (j:=j) (by simpa using h)
    simp only[xorAt]
    have e:∀(y:Int) (l:List Int),getI (y::l) (j+1)=getI l j:=fun y l=>by simp[getI]
    rw[e,e,this,show o+1+j=o+(j+1) by omega]
theorem xorAt_dig {f:Nat→Int}:∀{b:List Int} {o:Nat},Dig 256 (xorAt f b o)
  | [],_=>fun x hx=>by simp[xorAt]at hx
  | x::r,o=>fun y hy=>by
    simp only[xorAt,List.mem_cons]at hy
    rcases hy with rfl | hy
    · exact x8_bd _ _
    · exact xorAt_dig (b:=r) y hy
/-- The first j bytes are joined. -/
def mixT (f:Nat→Int) (b:List Int) (j:Nat):List Int:=(xorAt f b 0).take j++b.drop j
theorem mixT_0 {f:Nat→Int} {b:List Int}:mixT f b 0=b:=by simp[mixT]
theorem mixT_all {f:Nat→Int} {b:List Int}:mixT f b b.length=xorAt f b 0:=by
  rw[mixT,List.drop_length,List.append_nil,List.take_of_length_le (by rw[xorAt_len];exact Nat.le_refl _)]
theorem mixT_len {f:Nat→Int} {b:List Int} {j:Nat}:(mixT f b j).length=b.length:=by
  simp[mixT,xorAt_len];omega
theorem mixT_get {f:Nat→Int} {b:List Int} {j:Nat} (h:j<b.length):getI (mixT f b j) j=getI b j:=by
  simp only[mixT,getI,List.getD_eq_getElem?_getD]
  rw[List.getElem?_append_right (by simp[xorAt_len];omega)]
  simp[xorAt_len,Nat.min_eq_left (Nat.le_of_lt h)]
theorem mixT_set {f:Nat→Int} {b:List Int} {j:Nat} (h:j<b.length):(mixT f b j).set j (bXor .u8 (getI b j) (f j))=mixT f b (j+1):=by
  refine getI_ext (by rw[List.length_set,mixT_len,mixT_len]) fun i hi=>?_
  rw[List.length_set,mixT_len]at hi
  have g:∀k i,i<b.length→getI (mixT f b k) i=if i<k then bXor .u8 (getI b i) (f i)else getI b i:=fun k i hi=>by
    split
    · rename_i hk
      have:=xorAt_get (f:=f) (b:=b) (o:=0) hi
      rw[Nat.zero_add]at this
      rw[←this]
      simp only[mixT,getI,List.getD_eq_getElem?_getD]
      rw[List.getElem?_append_left (by simp[xorAt_len];omega),List.getElem?_take_of_lt hk]
    · rename_i hk
      simp only[mixT,getI,List.getD_eq_getElem?_getD]
      rw[List.getElem?_append_right (by simp[xorAt_len];omega)]
      simp only[List.length_take,xorAt_len,List.getElem?_drop]
      congr 2
      omega
  by_cases hij:i=j
  · subst hij
    rw[g _ _ h,if_pos (by omega)]
    simp[getI,List.getD_eq_getElem?_getD,mixT_len,h]
  · have:getI ((mixT f b j).set j (bXor .u8 (getI b j) (f j))) i=getI (mixT f b j) i:=by
      simp only[getI,List.getD_eq_getElem?_getD]
      rw[List.getElem?_set_ne (fun h=>hij h.symm)]
    rw[this,g _ _ hi,g _ _ hi]
    by_cases h1:i<j
    · rw[if_pos h1,if_pos (by omega)]
    · rw[if_neg h1,if_neg (by omega)]
theorem pursR_ints {k:Go.IntKind}:∀{xs:List Int},pursR (xs.map (V.int k))=true
  | []=>rfl
  | x::xs=>by simp only[List.map_cons,pursR,purR,pursR_ints (xs:=xs),Bool.and_self]
/-! ### The stream -/
def strB (L n:List Int) (m:Nat):List Int:=encF L (ctrF n (Go.IntKind.u32.wrap (Go.IntKind.u32.wrap (m:Int)+2)))
def ksAt (L n:List Int) (j:Nat):Int:=getI (strB L n (j/16)) (j%16)
def strF (L n b:List Int):List Int:=xorAt (ksAt L n) b 0
def preStr (ds:List D):Prop:=∃L n b:List Int,ds=[.v (.iface 115 (.rpc (L.map (V.int .u8)) 0)),.v (.ints .u8 n),.s .u8 b]∧L432 L∧B12 n∧Dig 256 b∧b.length≤549755813888
def F67:List D→Out
  | [.v (.iface _ (.rpc cs _)),.v (.ints _ n),.s _ b]=>.one (.s .u8 (strF (unI cs) n b))
  | _=>bad
def s67:Summ:=sData [.r,.v,.s .u8] preStr F67
theorem strB_ok {L n:List Int} (hL:L432 L) (hn:B12 n) (m:Nat):B16 (strB L n m):=by
  unfold strB encF
  exact rnds_ok hL (show B16 (ctrF n _)from ctrS_ok hn 4) 10
set_option maxHeartbeats 4000000 in
theorem ok67 {g:List Blk} [Ge gl g]:SumOK Tryd.prog g 67 s67∧SumAbs s67:=by
  refine fsumA (l:=[(77,s77),(79,s79)]) mixed gl_plain rfl Tryd.func67 comp67 compR67 nt67 (by simp only[List.mem_cons,List.not_mem_nil,or_false,forall_eq_or_imp,forall_eq];exact⟨ok77,ok79⟩) fun ds ⟨L,n,b,hd,hL,hn,hb,hbl⟩ hA=>?_
  subst hd
  have hnl:=hn.1
  have sn:sub n 0 12=n:=sub_zero hnl
  have hF:F67 [.v (.iface 115 (.rpc (L.map (V.int .u8)) 0)),.v (.ints .u8 n),.s .u8 b]=.one (.s .u8 (strF L n b)):=by
    show Out.one (.s .u8 (strF (unI (L.map (V.int .u8))) n b))=_
    rw[unI_ints]
  have sb:=qdd b
  have hn':∀j,j<432→nth (L.map (V.int .u8)) j=.int .u8 (getI L j):=fun j hj=>nth_ints (by have:=hL.1;omega)
  have qe:∀x,B16 x→preEnc [.v (.rpc (L.map (V.int .u8)) 0),.v (.ints .u8 x)]:=fun x hx=>⟨L,x,rfl,hL,hx⟩
  have fe:∀x,F79 [.v (.rpc (L.map (V.int .u8)) 0),.v (.ints .u8 x)]=.one (.v (.ints .u8 (encF L x))):=fun x=>by
    show Out.one (.v (.ints .u8 (encF (unI (L.map (V.int .u8))) x)))=_
    rw[unI_ints]
  have hpu:pursR (L.map (V.int .u8))=true:=pursR_ints
  obtain⟨cs,hcs⟩:∃cs,L.map (V.int .u8)=cs:=⟨_,rfl⟩
  rw[hcs]at hF hpu ⊢
  simp only[hcs]at qe fe
  obtain⟨f,hf⟩:∃f,ksAt L n=f:=⟨_,rfl⟩
  have hR:xorAt f b 0=strF L n b:=by rw[←hf];rfl
  obtain⟨R,hRR⟩:∃R,strF L n b=R:=⟨_,rfl⟩
  rw[hRR]at hF hR
  simp only[ir67,rs67,gl,hF,sn,hnl,sb,hpu,sub_zero,qdb,qai,List.length_cons,List.length_nil,Nat.reduceAdd,Nat.le_refl,Nat.reduceLeDiff,Nat.reduceLT,true_and,and_true,↓evA,evB,evs,evp,mkB,repB,blen,↓retQ,res,resAll,resOne,kill,apartOk,exp,injV,injB,pur,purs,purR,pursR,List.reduceReplicate,Nat.reduceMul,Nat.reduceSub,Nat.reduceEqDiff,Int.reduceToNat,Int.reduceLE,Int.reduceLT,Int.reduceEq,reduceCtorEq,↓reduceIte]
  refine⟨by omega,?_⟩
  refine awp_loopA (n:=53) hA [0,4,7,8] (by decide +kernel) (fun m:Nat=>[.iface 115 (.rpc cs 0),.ptr 5 0,.slice 7 0 1 b.length b.length,.int .i64 ((16*m:Nat):Int)])
    (fun m=>[.ints true .u64 roots,.dead,.dead,.dead,.ints true .u8 b,.ints false .u8 n,.dead,.ints false .u8 (mixT f b (min (16*m) b.length))]) (fun m=>m≤nbl b) (fun m=>nbl b-m) 0 ?_ (by omega) ?_
  · refine Hd.same ?_
    simp only[Nat.mul_zero,Nat.zero_min,mixT_0,show ((0:Nat):Int)=0 from rfl,List.map_cons,List.map_nil,Nat.reduceLT,nth_asl,look_cons,look_nil,reduceCtorEq,↓reduceIte,Nat.reduceEqDiff,Int.cast_ofNat_Int,List.append_nil,List.cons_append,List.nil_append,asl_length,and_true,true_and,Nat.zero_add,Nat.add_zero,Nat.reduceAdd,qcz,qc0,List.reduceReplicate]
  intro m hm K hK
  simp only[s77,s79]
  unfold nbl at hm hK
  by_cases hlm:16*m<b.length
  · have c1:((16*m:Nat):Int)<(b.length:Int):=by omega
    have w16:Go.IntKind.i64.wrap (((16*m:Nat):Int)+16)=((16*(m+1):Nat):Int):=by rw[wrap_i64];omega
    have wd:Go.IntKind.i64.wrap ((((16*m:Nat):Int)).tdiv 16)=(m:Int):=by
      rw[Int.tdiv_eq_ediv_of_nonneg (by omega),wrap_i64];omega
    have n16:¬(16:Int)=0:=by decide
    have hCo:=ctrS_ok (n:=Go.IntKind.u32.wrap (Go.IntKind.u32.wrap (m:Int)+2)) hn 4
    have hKb:=strB_ok hL hn m
    have fc:F77 [.v (.ints .u8 n),.v (.int .u32 (Go.IntKind.u32.wrap (Go.IntKind.u32.wrap (m:Int)+2)))]=.one (.v (.ints .u8 (ctrF n (Go.IntKind.u32.wrap (Go.IntKind.u32.wrap (m:Int)+2))))):=rfl
    have qc:preCtr [.v (.ints .u8 n),.v (.int .u32 (Go.IntKind.u32.wrap (Go.IntKind.u32.wrap (m:Int)+2)))]:=⟨_,_,rfl,hn⟩
    have hKe:encF L (ctrF n (Go.IntKind.u32.wrap (Go.IntKind.u32.wrap (m:Int)+2)))=strB L n m:=rfl
    have hfk:∀j,16*m≤j→j<16*(m+1)→f j=getI (strB L n m) (j-16*m):=fun j h1 h2=>by
      rw[←hf,ksAt,show j/16=m by omega,show j%16=j-16*m by omega]
    change B16 (ctrF n _)at hCo
    obtain⟨c,hce⟩:∃c,ctrF n (Go.IntKind.u32.wrap (Go.IntKind.u32.wrap (m:Int)+2))=c:=⟨_,rfl⟩
    rw[hce]at hCo fc hKe
    have qe1:=qe c hCo
    have fe1:=fe c
    obtain⟨k,hke⟩:∃k,strB L n m=k:=⟨_,rfl⟩
    rw[hke]at hKb hKe
    simp only[hke]at hfk
    rw[hKe]at fe1
    obtain⟨u,hu⟩:∃u,Go.IntKind.u32.wrap (Go.IntKind.u32.wrap (m:Int)+2)=u:=⟨_,rfl⟩
    rw[hu]at qc fc
    have hkl:=hKb.1
    have pk:spl [0,0,0,0,0,0,0,0,0,0,0,0,0,0,0,0] 0 k=k:=qdb (by simp[hkl])
    obtain⟨e,he⟩:∃e,min (16*(m+1)) b.length=e:=⟨_,rfl⟩
    have hmin:min ((16*(m+1):Nat):Int) (b.length:Int)=(e:Int):=by omega
    have hm0:min (16*m) b.length=16*m:=by omega
    rw[hm0]
    simp only[c1,wd,n16,sn,hnl,hu,qc,fc,qe1,fe1,hpu,hkl,pk,sub_zero,qdb,qai,List.length_cons,List.length_nil,Nat.reduceAdd,Nat.le_refl,Nat.reduceLeDiff,Nat.reduceLT,true_and,and_true,↓evA,evB,evs,evp,mkB,repB,blen,↓retQ,res,resAll,resOne,kill,apartOk,exp,injV,injB,pur,purs,purR,pursR,List.reduceReplicate,Nat.reduceMul,Nat.reduceSub,Nat.reduceEqDiff,Int.reduceToNat,Int.reduceLE,Int.reduceLT,Int.reduceEq,reduceCtorEq,↓reduceIte]
    repeat(refine And.intro (by omega) ?_)
    refine awp_loopA (n:=53) hA [0,4,7,8,9,10] (by decide +kernel) (fun j:Nat=>[.iface 115 (.rpc cs 0),.ptr 5 0,.slice 7 0 1 b.length b.length,.int .i64 ((16*m:Nat):Int),.ptr 8 0,.int .i64 (j:Int)])
      (fun j=>[.ints true .u64 roots,.dead,.dead,.dead,.ints true .u8 b,.ints false .u8 n,.dead,.ints false .u8 (mixT f b j),.ints false .u8 k]) (fun j=>16*m≤j∧j≤e) (fun j=>e-j) (16*m) ?_ (by omega) ?_
    · refine Hd.same ?_
      simp only[List.map_cons,List.map_nil,Nat.reduceLT,nth_asl,look_cons,look_nil,reduceCtorEq,↓reduceIte,Nat.reduceEqDiff,Int.cast_ofNat_Int,List.append_nil,List.cons_append,List.nil_append,asl_length,and_true,true_and,Nat.zero_add,Nat.add_zero,Nat.reduceAdd,qcz,qc0,List.reduceReplicate]
    intro j hj K2 hK2
    simp only[s77,s79]
    by_cases hlj:j<e
    · have d1:(j:Int)<(e:Int):=by omega
      have wj:Go.IntKind.i64.wrap ((j:Int)+1)=((j+1:Nat):Int):=by rw[wrap_i64];omega
      have ws:Go.IntKind.i64.wrap ((j:Int)-((16*m:Nat):Int))=((j-16*m:Nat):Int):=by rw[wrap_i64];omega
      have hjb:j<b.length:=by omega
      have hst:=mixT_set (f:=f) hjb
      have hg:=mixT_get (f:=f) hjb
      rw[hfk j hj.1 (by omega)]at hst
      have hml:=mixT_len (f:=f) (b:=b) (j:=j)
      obtain⟨M,hM⟩:∃M,mixT f b j=M:=⟨_,rfl⟩
      rw[hM]at hst hg hml ⊢
      have b1:j-16*m<16:=by omega
      simp only[w16,hmin,d1,wj,ws,hml,hjb,hg,hkl,b1,sub_zero,qdb,qai,List.length_cons,List.length_nil,Nat.reduceAdd,Nat.le_refl,Nat.reduceLeDiff,Nat.reduceLT,true_and,and_true,↓evA,evB,evs,evp,mkB,repB,blen,↓retQ,res,resAll,resOne,kill,apartOk,exp,injV,injB,pur,purs,purR,pursR,List.reduceReplicate,Nat.reduceMul,Nat.reduceSub,Nat.reduceEqDiff,Int.reduceToNat,Int.reduceLE,Int.reduceLT,Int.reduceEq,reduceCtorEq,↓reduceIte]
      repeat(refine And.intro (by omega) ?_)
      refine⟨j+1,hK2 _ (by omega) (by omega),Hd.same ?_⟩
      simp only[hst,List.map_cons,List.map_nil,Nat.reduceLT,nth_asl,look_cons,look_nil,reduceCtorEq,↓reduceIte,Nat.reduceEqDiff,Int.cast_ofNat_Int,List.append_nil,List.cons_append,List.nil_append,asl_length,and_true,true_and,Nat.zero_add,Nat.add_zero,Nat.reduceAdd,qcz,qc0,List.reduceReplicate]
    · obtain rfl:j=e:=by omega
      have d1:¬(j:Int)<(j:Int):=by omega
      simp only[w16,hmin,d1,sub_zero,qdb,qai,List.length_cons,List.length_nil,Nat.reduceAdd,Nat.le_refl,Nat.reduceLeDiff,Nat.reduceLT,true_and,and_true,↓evA,evB,evs,evp,mkB,repB,blen,↓retQ,res,resAll,resOne,kill,apartOk,exp,injV,injB,pur,purs,purR,pursR,List.reduceReplicate,Nat.reduceMul,Nat.reduceSub,Nat.reduceEqDiff,Int.reduceToNat,Int.reduceLE,Int.reduceLT,Int.reduceEq,reduceCtorEq,↓reduceIte]
      refine⟨m+1,hK _ (by omega) (by omega),Hd.of [0,1,2,3,4,5,6,7] (by decide) (by decide) (by simp) ?_⟩
      simp only[he,gc,gcVs,gcV,posOf,gcH,gcB,Option.map_some,Option.map_none,List.replicate_zero,List.drop_zero,List.map_cons,List.map_nil,Nat.reduceLT,nth_asl,look_cons,look_nil,reduceCtorEq,↓reduceIte,Nat.reduceEqDiff,Int.cast_ofNat_Int,List.append_nil,List.cons_append,List.nil_append,asl_length,and_true,true_and,Nat.zero_add,Nat.add_zero,Nat.reduceAdd,qcz,qc0,List.reduceReplicate]
  · have c1:¬((16*m:Nat):Int)<(b.length:Int):=by omega
    have hm0:min (16*m) b.length=b.length:=by omega
    rw[hm0,mixT_all,hR]
    have hRl:R.length=b.length:=by rw[←hR,xorAt_len]
    simp only[c1,sub_zero,qdb,qai,List.length_cons,List.length_nil,Nat.reduceAdd,Nat.le_refl,Nat.reduceLeDiff,Nat.reduceLT,true_and,and_true,↓evA,evB,evs,evp,mkB,repB,blen,↓retQ,res,resAll,resOne,kill,apartOk,exp,injV,injB,pur,purs,purR,pursR,List.reduceReplicate,Nat.reduceMul,Nat.reduceSub,Nat.reduceEqDiff,Int.reduceToNat,Int.reduceLE,Int.reduceLT,Int.reduceEq,reduceCtorEq,↓reduceIte]
    simp only[out,outs,out1,pur,purs,qcz,qc0,List.not_mem_nil,not_false_eq_true,true_and,and_true,Nat.reduceLeDiff,Nat.le_refl]
    exact⟨by omega,sub_zero hRl⟩
/-! ### The tag -/
def tagF (L n a b:List Int):List Int:=jn (hashF (encF L z16) a b) (encF L (ctrF n 1)) 16
def preTag (ds:List D):Prop:=∃L n a b:List Int,ds=[.v (.iface 115 (.rpc (L.map (V.int .u8)) 0)),.v (.ints .u8 n),.s .u8 a,.s .u8 b]∧L432 L∧B12 n∧Dig 256 a∧a.length≤549755813888∧Dig 256 b∧b.length≤549755813888
def F68:List D→Out
  | [.v (.iface _ (.rpc cs _)),.v (.ints _ n),.s _ a,.s _ b]=>.one (.v (.ints .u8 (tagF (unI cs) n a b)))
  | _=>bad
def s68:Summ:=sData [.r,.v,.s .u8,.s .u8] preTag F68
theorem z16_ok:B16 z16:=⟨rfl,fun x hx=>by rw[(List.mem_replicate.1 hx).2];decide⟩
theorem encL_ok {L b:List Int} (hL:L432 L) (hb:B16 b):B16 (encF L b):=rnds_ok hL hb 10
theorem hash_ok (k a b:List Int):B16 (hashF k a b):=blkF_ok _ _
theorem ctr_ok {c:List Int} {n:Int} (h:B12 c):B16 (ctrF c n):=ctrS_ok h 4
theorem tag_ok (L n a b:List Int):B16 (tagF L n a b):=jn_ok (hash_ok _ _ _)
set_option maxHeartbeats 4000000 in
theorem ok68 {g:List Blk} [Ge gl g]:SumOK Tryd.prog g 68 s68∧SumAbs s68:=by
  refine fsumA (l:=[(77,s77),(79,s79),(78,s78)]) mixed gl_plain rfl Tryd.func68 comp68 compR68 nt68 (by simp only[List.mem_cons,List.not_mem_nil,or_false,forall_eq_or_imp,forall_eq];exact⟨ok77,ok79,ok78⟩) fun ds ⟨L,n,a,b,hd,hL,hn,ha,hal,hb,hbl⟩ hA=>?_
  subst hd
  have hnl:=hn.1
  have sn:sub n 0 12=n:=sub_zero hnl
  have hF:F68 [.v (.iface 115 (.rpc (L.map (V.int .u8)) 0)),.v (.ints .u8 n),.s .u8 a,.s .u8 b]=.one (.v (.ints .u8 (tagF L n a b))):=by
    show Out.one (.v (.ints .u8 (tagF (unI (L.map (V.int .u8))) n a b)))=_
    rw[unI_ints]
  have sa:=qdd a
  have sb:=qdd b
  have qe:∀x,B16 x→preEnc [.v (.rpc (L.map (V.int .u8)) 0),.v (.ints .u8 x)]:=fun x hx=>⟨L,x,rfl,hL,hx⟩
  have fe:∀x,F79 [.v (.rpc (L.map (V.int .u8)) 0),.v (.ints .u8 x)]=.one (.v (.ints .u8 (encF L x))):=fun x=>by
    show Out.one (.v (.ints .u8 (encF (unI (L.map (V.int .u8))) x)))=_
    rw[unI_ints]
  have hpu:pursR (L.map (V.int .u8))=true:=pursR_ints
  obtain⟨cs,hcs⟩:∃cs,L.map (V.int .u8)=cs:=⟨_,rfl⟩
  rw[hcs]at hF hpu ⊢
  simp only[hcs]at qe fe
  have q1:=qe z16 z16_ok
  have f1:=fe z16
  have hH:=encL_ok hL z16_ok
  have hE:=encL_ok hL (ctr_ok (n:=1) hn)
  have hC:=ctr_ok (n:=1) hn
  have qc:preCtr [.v (.ints .u8 n),.v (.int .u32 1)]:=⟨_,_,rfl,hn⟩
  have fc:F77 [.v (.ints .u8 n),.v (.int .u32 1)]=.one (.v (.ints .u8 (ctrF n 1))):=rfl
  have hT:jn (hashF (encF L z16) a b) (encF L (ctrF n 1)) 16=tagF L n a b:=rfl
  obtain⟨c,hc⟩:∃c,ctrF n 1=c:=⟨_,rfl⟩
  rw[hc]at hE hC fc hT
  have q2:=qe c hC
  have f2:=fe c
  obtain⟨k,hk⟩:∃k,encF L c=k:=⟨_,rfl⟩
  rw[hk]at hE hT f2
  obtain⟨H,hHe⟩:∃H,encF L z16=H:=⟨_,rfl⟩
  rw[hHe]at hH hT f1
  have qh:preHsh [.v (.ints .u8 H),.v (.rcs 1 2 [.rsl 1 a.length .u8 a,.rsl 1 b.length .u8 b])]:=⟨_,_,_,rfl,hH,ha,hb,hal,hbl⟩
  have fh:F78 [.v (.ints .u8 H),.v (.rcs 1 2 [.rsl 1 a.length .u8 a,.rsl 1 b.length .u8 b])]=.one (.v (.ints .u8 (hashF H a b))):=rfl
  have hS:=hash_ok H a b
  obtain⟨s,hs⟩:∃s,hashF H a b=s:=⟨_,rfl⟩
  rw[hs]at fh hT hS
  obtain⟨R,hRR⟩:∃R,tagF L n a b=R:=⟨_,rfl⟩
  rw[hRR]at hF hT
  have hkl:=hE.1
  have hsl:=hS.1
  have pk:spl [0,0,0,0,0,0,0,0,0,0,0,0,0,0,0,0] 0 k=k:=qdb (by simp[hkl])
  have ps:spl [0,0,0,0,0,0,0,0,0,0,0,0,0,0,0,0] 0 s=s:=qdb (by simp[hsl])
  simp only[z16,List.reduceReplicate]at q1 f1
  simp only[s77,s79,s78]
  simp only[ir68,rs68,gl,hF,sn,hnl,sa,sb,hpu,q1,f1,q2,f2,qc,fc,qh,fh,hkl,hsl,pk,ps,sub_zero,qdb,qai,List.length_cons,List.length_nil,Nat.reduceAdd,Nat.le_refl,Nat.reduceLeDiff,Nat.reduceLT,true_and,and_true,↓evA,evB,evs,evp,mkB,repB,blen,↓retQ,res,resAll,resOne,kill,apartOk,exp,injV,injB,pur,purs,purR,pursR,List.reduceReplicate,Nat.reduceMul,Nat.reduceSub,Nat.reduceEqDiff,Int.reduceToNat,Int.reduceLE,Int.reduceLT,Int.reduceEq,reduceCtorEq,↓reduceIte]
  repeat(refine And.intro (by omega) ?_)
  refine awp_loopA (n:=39) hA [8,9,10,26] (by decide +kernel) (fun i:Nat=>[.ptr 7 0,.ptr 9 0,.ptr 10 0,.int .i64 i])
    (fun i=>[.ints true .u64 roots,.dead,.dead,.dead,.ints true .u8 a,.ints true .u8 b,.ints false .u8 n,.ints false .u8 [0,0,0,0,0,0,0,0,0,0,0,0,0,0,0,0],.cells false [.slice 4 0 1 a.length a.length,.slice 5 0 1 b.length b.length],.ints false .u8 (jn s k i),.ints false .u8 k]) (fun i=>i≤16) (fun i=>16-i) 0 ?_ (by omega) ?_
  · refine Hd.same ?_
    simp only[jn,List.map_cons,List.map_nil,Nat.reduceLT,nth_asl,look_cons,look_nil,reduceCtorEq,↓reduceIte,Nat.reduceEqDiff,Int.cast_ofNat_Int,List.append_nil,List.cons_append,List.nil_append,asl_length,and_true,true_and,Nat.zero_add,Nat.add_zero,Nat.reduceAdd,qcz,qc0,List.reduceReplicate]
  intro i hi K hK
  have hjl:(jn s k i).length=16:=by rw[jn_len,hsl]
  by_cases hlt:i<16
  · have c1:(i:Int)<16:=by omega
    have wi:Go.IntKind.i64.wrap ((i:Int)+1)=((i+1:Nat):Int):=by rw[wrap_i64];omega
    have hx:jn s k (i+1)=(jn s k i).set i (bXor .u8 (getI (jn s k i) i) (getI k i)):=rfl
    obtain⟨y,hy⟩:∃y,jn s k i=y:=⟨_,rfl⟩
    rw[hy]at hx hjl ⊢
    simp only[c1,wi,hjl,hkl,hlt,sub_zero,qdb,qai,List.length_cons,List.length_nil,Nat.reduceAdd,Nat.le_refl,Nat.reduceLeDiff,Nat.reduceLT,true_and,and_true,↓evA,evB,evs,evp,mkB,repB,blen,↓retQ,res,resAll,resOne,kill,apartOk,exp,injV,injB,pur,purs,purR,pursR,List.reduceReplicate,Nat.reduceMul,Nat.reduceSub,Nat.reduceEqDiff,Int.reduceToNat,Int.reduceLE,Int.reduceLT,Int.reduceEq,reduceCtorEq,↓reduceIte]
    repeat(refine And.intro (by omega) ?_)
    refine⟨i+1,hK _ (by omega) (by omega),Hd.same ?_⟩
    simp only[hx,List.map_cons,List.map_nil,Nat.reduceLT,nth_asl,look_cons,look_nil,reduceCtorEq,↓reduceIte,Nat.reduceEqDiff,Int.cast_ofNat_Int,List.append_nil,List.cons_append,List.nil_append,asl_length,and_true,true_and,Nat.zero_add,Nat.add_zero,Nat.reduceAdd,qcz,qc0,List.reduceReplicate]
  obtain rfl:i=16:=by omega
  have c1:¬((16:Nat):Int)<16:=by omega
  rw[hT]at hjl ⊢
  have sR:sub R 0 16=R:=sub_zero hjl
  have pR:spl [0,0,0,0,0,0,0,0,0,0,0,0,0,0,0,0] 0 R=R:=qdb (by simp[hjl])
  simp only[c1,hjl,sR,pR,sub_zero,qdb,qai,List.length_cons,List.length_nil,Nat.reduceAdd,Nat.le_refl,Nat.reduceLeDiff,Nat.reduceLT,true_and,and_true,↓evA,evB,evs,evp,mkB,repB,blen,↓retQ,res,resAll,resOne,kill,apartOk,exp,injV,injB,pur,purs,purR,pursR,List.reduceReplicate,Nat.reduceMul,Nat.reduceSub,Nat.reduceEqDiff,Int.reduceToNat,Int.reduceLE,Int.reduceLT,Int.reduceEq,reduceCtorEq,↓reduceIte]
  repeat(refine And.intro (by omega) ?_)
  simp only[out,outs,out1,pur,and_self]
end Am
