/-
Working texts: contracts of functions, and the numbers behind them.
-/
import Derived.Test.YtcefobjfkmfmiaaDoorGcL
set_option linter.unusedSimpArgs false
set_option linter.unusedVariables false
set_option linter.unusedSectionVars false
set_option maxRecDepth 20000
namespace Am
open Go.Proofs
/-! ### The reference's sealing -/
def preSR (ds:List D):Prop:=∃k n a b:List Int,ds=[.s .u8 (boxL 256),.v (.ints .u8 k),.v (.ints .u8 n),.s .u8 a,.s .u8 b]∧B16 k∧B12 n∧Dig 256 a∧a.length≤1000∧Dig 256 b∧b.length≤1000
def F55:List D→Out
  | [_,.v (.ints _ k),.v (.ints _ n),.s _ a,.s _ b]=>.one (.s .u8 (sealF k n a b))
  | _=>bad
def s55:Summ:=sData [.s .u8,.v,.v,.s .u8,.s .u8] preSR F55
set_option maxHeartbeats 4000000 in
theorem ok55 {g:List Blk} [Ge gl g]:SumOK Tryd.prog g 55 s55∧SumAbs s55:=by
  refine fsumA (l:=[(71,s71),(56,s56),(72,s72)]) mixed gl_plain rfl Tryd.func55 comp55 compR55 nt55 (by simp only[List.mem_cons,List.not_mem_nil,or_false,forall_eq_or_imp,forall_eq];exact⟨ok71,ok56,ok72⟩) fun ds ⟨k,n,a,b,hd,hk,hn,ha,hal,hb,hbl⟩ hA=>?_
  subst hd
  have hkl:=hk.1
  have hnl:=hn.1
  have sk:sub k 0 16=k:=sub_zero hkl
  have sn:sub n 0 12=n:=sub_zero hnl
  have sa:=qdd a
  have sb:=qdd b
  have hL:=new_ok hk
  have hae:∀x,B16 x→encF (newF k) x=encR (boxL 256) k x:=fun x hx=>aes_eq hk hx
  have hox:=boxL_ok
  have hxl:=boxL_len 256
  have hF:F55 [.s .u8 (boxL 256),.v (.ints .u8 k),.v (.ints .u8 n),.s .u8 a,.s .u8 b]=.one (.s .u8 (strF (newF k) n b++tagF (newF k) n a (strF (newF k) n b))):=rfl
  obtain⟨X,hX⟩:∃X,boxL 256=X:=⟨_,rfl⟩
  rw[hX]at hF hox hxl ⊢
  simp only[hX]at hae
  have sX:sub X 0 256=X:=sub_zero hxl
  obtain⟨L,hLe⟩:∃L,newF k=L:=⟨_,rfl⟩
  rw[hLe]at hF hL
  simp only[hLe]at hae
  have qe:∀x,B16 x→preEncR [.s .u8 X,.v (.ints .u8 k),.v (.ints .u8 x)]:=fun x hx=>⟨_,_,_,rfl,hox,hk,hx⟩
  have fe:∀x,B16 x→F56 [.s .u8 X,.v (.ints .u8 k),.v (.ints .u8 x)]=.one (.v (.ints .u8 (encF L x))):=fun x hx=>by
    rw[hae x hx];rfl
  have n16:¬(16:Int)=0:=by decide
  have hSl:=str_len L n b
  have hSd:=str_dig L n b
  have hSt:∀i,i<b.length→(strF L n b).take (i+1)=(strF L n b).take i++[bXor .u8 (getI b i) (getI (strB L n (i/16)) (i%16))]:=fun i hi=>by
    rw[take_snoc (by rw[hSl];exact hi)]
    rw[strF,xorAt_get hi,Nat.zero_add,ksAt]
  -- what comes behind the texts
  have hEz:=encL_ok hL z16_ok
  have qz:=qe z16 z16_ok
  have fz:=fe z16 z16_ok
  have hC1:=crF_ok hn 1
  have hc1:crF n 1=ctrF n 1:=cr_ctr hn (by decide)
  have q1:preCr [.v (.ints .u8 n),.v (.int .i64 1)]:=⟨n,1,rfl,hn,by decide⟩
  have f1:F71 [.v (.ints .u8 n),.v (.int .i64 1)]=.one (.v (.ints .u8 (crF n 1))):=rfl
  rw[hc1]at hC1 f1
  have qc:=qe _ hC1
  have fc:=fe _ hC1
  have hE1:=encL_ok hL hC1
  have hT0:tagF L n a (strF L n b)=jn (hashF (encF L z16) a (strF L n b)) (encF L (ctrF n 1)) 16:=rfl
  obtain⟨S,hS⟩:∃S,strF L n b=S:=⟨_,rfl⟩
  rw[hS]at hF hSl hSd hT0
  simp only[hS]at hSt
  obtain⟨c,hc⟩:∃c,ctrF n 1=c:=⟨_,rfl⟩
  rw[hc]at hT0 hC1 f1 qc fc hE1
  obtain⟨E,hE⟩:∃E,encF L c=E:=⟨_,rfl⟩
  rw[hE]at hT0 fc hE1
  obtain⟨H,hH⟩:∃H,encF L z16=H:=⟨_,rfl⟩
  rw[hH]at hT0 fz hEz
  obtain⟨b1,-⟩:=hr_of hEz z16_ok ha
  obtain⟨b2,-⟩:=hr_of hEz b1 hSd
  have hlo:=blkF_ok (bitl a) (bitl S)
  obtain⟨b3,-⟩:=hr_of hEz b2 hlo.2
  rw[←hr_hash hEz ha hSd]at hT0
  have g1:preHr [.v (.ints .u8 z16),.v (.ints .u8 H),.s .u8 a]:=⟨_,_,_,rfl,rfl,hEz.1,by omega⟩
  have k1:F72 [.v (.ints .u8 z16),.v (.ints .u8 H),.s .u8 a]=.one (.v (.ints .u8 (hrF z16 H a))):=rfl
  have g2:preHr [.v (.ints .u8 (hrF z16 H a)),.v (.ints .u8 H),.s .u8 S]:=⟨_,_,_,rfl,b1.1,hEz.1,by omega⟩
  have k2:F72 [.v (.ints .u8 (hrF z16 H a)),.v (.ints .u8 H),.s .u8 S]=.one (.v (.ints .u8 (hrF (hrF z16 H a) H S))):=rfl
  have g3:preHr [.v (.ints .u8 (hrF (hrF z16 H a) H S)),.v (.ints .u8 H),.s .u8 (blkF (bitl a) (bitl S))]:=⟨_,_,_,rfl,b2.1,hEz.1,by rw[hlo.1];decide⟩
  have k3:F72 [.v (.ints .u8 (hrF (hrF z16 H a) H S)),.v (.ints .u8 H),.s .u8 (blkF (bitl a) (bitl S))]=.one (.v (.ints .u8 (hrF (hrF (hrF z16 H a) H S) H (blkF (bitl a) (bitl S))))):=rfl
  have ea:Go.IntKind.u64.wrap (Go.IntKind.u64.wrap (a.length:Int)*8)=bitl a:=rfl
  have eb:Go.IntKind.u64.wrap (Go.IntKind.u64.wrap (b.length:Int)*8)=bitl S:=by rw[bitl,hSl]
  have hlg:∀j,j<16→getI (blkF (bitl a) (bitl S)) j=if j<8 then Go.IntKind.u8.wrap (iShr .u64 (bitl a) ((56-8*j:Nat):Int))else Go.IntKind.u8.wrap (iShr .u64 (bitl S) ((56-8*(j-8):Nat):Int)):=fun j hj=>by
    rw[blkF,blk_get 8 (by decide) j hj]
    by_cases h:j<8
    · rw[if_pos h,if_pos h]
    · rw[if_neg h,if_neg h,if_pos ⟨by omega,by omega⟩]
  obtain⟨y1,hy1⟩:∃y,hrF z16 H a=y:=⟨_,rfl⟩
  rw[hy1]at b1 b2 b3 g2 g3 k1 k2 k3 hT0
  obtain⟨y2,hy2⟩:∃y,hrF y1 H S=y:=⟨_,rfl⟩
  rw[hy2]at b2 b3 g3 k2 k3 hT0
  obtain⟨la,hla⟩:∃x,bitl a=x:=⟨_,rfl⟩
  obtain⟨ls,hls⟩:∃x,bitl S=x:=⟨_,rfl⟩
  rw[hla]at ea
  rw[hls]at eb
  rw[hla,hls]at g3 k3 hT0 hlo b3
  simp only[hla,hls]at hlg
  obtain⟨M,hM⟩:∃x,blkF la ls=x:=⟨_,rfl⟩
  rw[hM]at g3 k3 hT0 hlo b3
  simp only[hM]at hlg
  obtain⟨y3,hy3⟩:∃y,hrF y2 H M=y:=⟨_,rfl⟩
  rw[hy3]at b3 k3 hT0
  obtain⟨T,hT⟩:∃T,tagF L n a S=T:=⟨_,rfl⟩
  have hTB:=tag_ok L n a S
  rw[hT]at hT0 hF hTB
  have hTl:=hTB.1
  have hTg:∀j,j<16→getI T j=bXor .u8 (getI y3 j) (getI E j):=fun j hj=>by rw[hT0,jn_get b3.1,if_pos hj]
  have hTt:∀j,j<16→T.take (j+1)=T.take j++[bXor .u8 (getI y3 j) (getI E j)]:=fun j hj=>by
    rw[take_snoc (by omega),hTg j hj]
  have hMl:=hlo.1
  have hM1:∀j,j<8→M.take (j+1)=M.take j++[Go.IntKind.u8.wrap (iShr .u64 la ((56-8*j:Nat):Int))]:=fun j hj=>by
    rw[take_snoc (by omega),hlg j (by omega),if_pos hj]
  have hM2:∀j,j<8→M.take (8+j+1)=M.take (8+j)++[Go.IntKind.u8.wrap (iShr .u64 ls ((56-8*j:Nat):Int))]:=fun j hj=>by
    rw[take_snoc (by omega),hlg (8+j) (by omega),if_neg (by omega),show 8+j-8=j by omega]
  have hHl:=hEz.1
  have hEl:=hE1.1
  have y1l:=b1.1
  have y2l:=b2.1
  have y3l:=b3.1
  have hcl:=hC1.1
  have sH:sub H 0 16=H:=sub_zero hHl
  have sy2:sub y2 0 16=y2:=sub_zero y2l
  have pz:∀z:List Int,z.length=16→spl [0,0,0,0,0,0,0,0,0,0,0,0,0,0,0,0] 0 z=z:=fun z hz=>qdb (by simp[hz])
  have pH:=pz H hHl
  have pE:=pz E hEl
  have py2:=pz y2 y2l
  have py3:spl y2 0 y3=y3:=qdb (by omega)
  have sM:sub M 0 16=M:=sub_zero hMl
  have sS:sub S 0 b.length=S:=sub_zero hSl
  have z16e:z16=[0,0,0,0,0,0,0,0,0,0,0,0,0,0,0,0]:=rfl
  rw[z16e]at qz fz g1 k1
  simp only[s71,s56,s72]
  simp only[ir55,rs55,gl,hF,sk,sn,hkl,hnl,sub_zero,qdb,qai,List.length_cons,List.length_nil,Nat.reduceAdd,Nat.le_refl,Nat.reduceLeDiff,Nat.reduceLT,true_and,and_true,↓evA,evB,evs,evp,mkB,repB,blen,↓retQ,res,resAll,resOne,kill,apartOk,exp,injV,injB,pur,purs,purR,pursR,List.reduceReplicate,Nat.reduceMul,Nat.reduceSub,Nat.reduceEqDiff,Int.reduceToNat,Int.reduceLE,Int.reduceLT,Int.reduceEq,reduceCtorEq,↓reduceIte]
  by_cases hb0:b=[]
  · subst hb0
    have hS0:S=[]:=List.eq_nil_of_length_eq_zero hSl
    subst hS0
    have sX':=qdd X
    obtain⟨Q,hQ⟩:∃Q,z16=Q:=⟨_,rfl⟩
    have hQ':=hQ
    simp only[z16,List.reduceReplicate]at hQ'
    refine awp_loopA (n:=117) hA [0,3,4,6,7,11,12,13] (by decide +kernel) (fun i:Nat=>[.slice 4 0 1 X.length X.length,.slice 5 0 1 a.length a.length,.slice 6 0 1 0 0,.ptr 7 0,.ptr 8 0,.nils,.ptr 9 0,.int .i64 0])
      (fun i=>[.ints true .u64 roots,.dead,.dead,.dead,.ints true .u8 X,.ints true .u8 a,.ints true .u8 [],.ints false .u8 k,.ints false .u8 n,.ints false .u8 Q]) (fun i=>i≤0) (fun i=>0) 0 ?_ (by omega) ?_
    · refine Hd.same ?_
      simp only[hQ',show ((0:Nat):Int)=0 from rfl,↓evA,evB,evs,evp,mkB,repB,blen,↓retQ,res,resAll,resOne,kill,apartOk,exp,injV,injB,pur,purs,purR,pursR,List.reduceReplicate,Nat.reduceAdd,Nat.reduceMul,Nat.reduceSub,Nat.reduceEqDiff,Nat.reduceLT,Int.reduceToNat,Int.reduceLE,Int.reduceLT,Int.reduceEq,reduceCtorEq,↓reduceIte]
    intro i hi K hK
    have c1:¬(0:Int)<0:=by decide
    have eb1:Go.IntKind.u64.wrap (Go.IntKind.u64.wrap 0*8)=ls:=eb
    simp only[s71,s56,s72]
    simp only[c1,sX',qz,fz,sk,sn,sa,sS,sH,hkl,hnl,hHl,pH,g1,k1,g2,k2,y1l,y2l,py2,sub_zero,qdb,qai,List.length_cons,List.length_nil,Nat.reduceAdd,Nat.le_refl,Nat.reduceLeDiff,Nat.reduceLT,true_and,and_true,↓evA,evB,evs,evp,mkB,repB,blen,↓retQ,res,resAll,resOne,kill,apartOk,exp,injV,injB,pur,purs,purR,pursR,List.reduceReplicate,Nat.reduceMul,Nat.reduceSub,Nat.reduceEqDiff,Int.reduceToNat,Int.reduceLE,Int.reduceLT,Int.reduceEq,reduceCtorEq,↓reduceIte]
    repeat(refine And.intro (by omega) ?_)
    refine awp_loopA (n:=117) hA [0,3,4,6,7,11,14,15,16,17] (by decide +kernel) (fun j:Nat=>[.slice 4 0 1 X.length X.length,.slice 5 0 1 a.length a.length,.slice 6 0 1 0 0,.ptr 7 0,.ptr 8 0,.nils,.ptr 10 0,.ptr 11 0,if j=0 then .nils else .slice 12 0 1 j j,.int .i64 (j:Int)])
      (fun j=>[.ints true .u64 roots,.dead,.dead,.dead,.ints true .u8 X,.ints true .u8 a,.ints true .u8 [],.ints false .u8 k,.ints false .u8 n,.ints false .u8 Q,.ints false .u8 H,.ints false .u8 y2]++(if j=0 then []else [.ints false .u8 (M.take j)])) (fun j=>j≤8) (fun j=>8-j) 0 ?_ (by omega) ?_
    · refine Hd.same ?_
      simp only[if_true,List.append_nil,List.map_cons,List.map_nil,Nat.reduceLT,nth_asl,look_cons,look_nil,reduceCtorEq,↓reduceIte,Nat.reduceEqDiff,Int.cast_ofNat_Int,List.cons_append,List.nil_append,asl_length,and_true,true_and,Nat.zero_add,Nat.add_zero,Nat.reduceAdd,qcz,qc0,List.reduceReplicate]
    intro j hj K1 hK1
    simp only[s71,s56,s72]
    by_cases hlj:j<8
    · have d1:(j:Int)<8:=by omega
      have wj:Go.IntKind.i64.wrap ((j:Int)+1)=((j+1:Nat):Int):=by rw[wrap_i64];omega
      have wm:Go.IntKind.i64.wrap (8*(j:Int))=((8*j:Nat):Int):=by rw[wrap_i64];omega
      have ws:Go.IntKind.i64.wrap (56-((8*j:Nat):Int))=((56-8*j:Nat):Int):=by rw[wrap_i64];omega
      have hst:=hM1 j hlj
      have ne1f:(j+1=0)=False:=eq_false (by omega)
      have hls:(M.take j).length=j:=by rw[List.length_take];omega
      by_cases h0:j=0
      · have e0:(j=0)=True:=eq_true h0
        have hst0:M.take (j+1)=[Go.IntKind.u8.wrap (iShr .u64 la ((56-8*j:Nat):Int))]:=by rw[hst,h0];rfl
        have hsl1:V.slice 12 0 1 (j+1) (j+1)=V.slice 12 0 1 1 1:=by rw[h0]
        simp only[e0,if_true,List.append_nil]
        simp only[d1,wj,wm,ws,ea,sub_zero,qdb,qai,List.length_cons,List.length_nil,Nat.reduceAdd,Nat.le_refl,Nat.reduceLeDiff,Nat.reduceLT,true_and,and_true,↓evA,evB,evs,evp,mkB,repB,blen,↓retQ,res,resAll,resOne,kill,apartOk,exp,injV,injB,pur,purs,purR,pursR,List.reduceReplicate,Nat.reduceMul,Nat.reduceSub,Nat.reduceEqDiff,Int.reduceToNat,Int.reduceLE,Int.reduceLT,Int.reduceEq,reduceCtorEq,↓reduceIte]
        repeat(refine And.intro (by omega) ?_)
        refine⟨j+1,hK1 _ (by omega) (by omega),Hd.of [0,1,2,3,4,5,6,7,8,9,10,11,13] (by decide) (by decide) (by simp) ?_⟩
        simp only[ne1f,if_false,hst0,hsl1,List.cons_append,List.nil_append,gc,gcVs,gcV,posOf,gcH,gcB,Option.map_some,Option.map_none,List.replicate_zero,List.drop_zero,List.map_cons,List.map_nil,Nat.reduceLT,nth_asl,look_cons,look_nil,reduceCtorEq,↓reduceIte,Nat.reduceEqDiff,Int.cast_ofNat_Int,List.append_nil,asl_length,and_true,true_and,Nat.zero_add,Nat.add_zero,Nat.reduceAdd,qcz,qc0,List.reduceReplicate]
      · have e0:(j=0)=False:=eq_false h0
        simp only[e0,if_false,List.cons_append,List.nil_append]
        simp only[d1,wj,wm,ws,ea,hls,sub_zero,qdb,qai,List.length_cons,List.length_nil,Nat.reduceAdd,Nat.le_refl,Nat.reduceLeDiff,Nat.reduceLT,true_and,and_true,↓evA,evB,evs,evp,mkB,repB,blen,↓retQ,res,resAll,resOne,kill,apartOk,exp,injV,injB,pur,purs,purR,pursR,List.reduceReplicate,Nat.reduceMul,Nat.reduceSub,Nat.reduceEqDiff,Int.reduceToNat,Int.reduceLE,Int.reduceLT,Int.reduceEq,reduceCtorEq,↓reduceIte]
        repeat(refine And.intro (by omega) ?_)
        refine⟨j+1,hK1 _ (by omega) (by omega),Hd.of [0,1,2,3,4,5,6,7,8,9,10,11,14] (by decide) (by decide) (by simp) ?_⟩
        simp only[ne1f,if_false,hst,List.cons_append,List.nil_append,gc,gcVs,gcV,posOf,gcH,gcB,Option.map_some,Option.map_none,List.replicate_zero,List.drop_zero,List.map_cons,List.map_nil,Nat.reduceLT,nth_asl,look_cons,look_nil,reduceCtorEq,↓reduceIte,Nat.reduceEqDiff,Int.cast_ofNat_Int,List.append_nil,asl_length,and_true,true_and,Nat.zero_add,Nat.add_zero,Nat.reduceAdd,qcz,qc0,List.reduceReplicate]
    obtain rfl:j=8:=by omega
    have d1:¬((8:Nat):Int)<8:=by omega
    simp only[show ((8:Nat)=0)=False from eq_false (by decide),if_false,List.cons_append,List.nil_append]
    simp only[d1,sub_zero,qdb,qai,List.length_cons,List.length_nil,Nat.reduceAdd,Nat.le_refl,Nat.reduceLeDiff,Nat.reduceLT,true_and,and_true,↓evA,evB,evs,evp,mkB,repB,blen,↓retQ,res,resAll,resOne,kill,apartOk,exp,injV,injB,pur,purs,purR,pursR,List.reduceReplicate,Nat.reduceMul,Nat.reduceSub,Nat.reduceEqDiff,Int.reduceToNat,Int.reduceLE,Int.reduceLT,Int.reduceEq,reduceCtorEq,↓reduceIte]
    refine awp_loopA (n:=117) hA [0,4,6,7,11,14,15,16,18] (by decide +kernel) (fun j:Nat=>[.slice 4 0 1 X.length X.length,.slice 6 0 1 0 0,.ptr 7 0,.ptr 8 0,.nils,.ptr 10 0,.ptr 11 0,.slice 12 0 1 (8+j) (8+j),.int .i64 (j:Int)])
      (fun j=>[.ints true .u64 roots,.dead,.dead,.dead,.ints true .u8 X,.ints true .u8 a,.ints true .u8 [],.ints false .u8 k,.ints false .u8 n,.ints false .u8 Q,.ints false .u8 H,.ints false .u8 y2,.ints false .u8 (M.take (8+j))]) (fun j=>j≤8) (fun j=>8-j) 0 ?_ (by omega) ?_
    · refine Hd.same ?_
      simp only[List.map_cons,List.map_nil,Nat.reduceLT,nth_asl,look_cons,look_nil,reduceCtorEq,↓reduceIte,Nat.reduceEqDiff,Int.cast_ofNat_Int,List.append_nil,List.cons_append,List.nil_append,asl_length,and_true,true_and,Nat.zero_add,Nat.add_zero,Nat.reduceAdd,qcz,qc0,List.reduceReplicate]
    intro j hj2 K2 hK2
    simp only[s71,s56,s72]
    by_cases hlj:j<8
    · have d1:(j:Int)<8:=by omega
      have wj:Go.IntKind.i64.wrap ((j:Int)+1)=((j+1:Nat):Int):=by rw[wrap_i64];omega
      have wm:Go.IntKind.i64.wrap (8*(j:Int))=((8*j:Nat):Int):=by rw[wrap_i64];omega
      have ws:Go.IntKind.i64.wrap (56-((8*j:Nat):Int))=((56-8*j:Nat):Int):=by rw[wrap_i64];omega
      have hst:=hM2 j hlj
      have hls:(M.take (8+j)).length=8+j:=by rw[List.length_take];omega
      simp only[d1,wj,wm,ws,eb,eb1,hls,sub_zero,qdb,qai,List.length_cons,List.length_nil,Nat.reduceAdd,Nat.le_refl,Nat.reduceLeDiff,Nat.reduceLT,true_and,and_true,↓evA,evB,evs,evp,mkB,repB,blen,↓retQ,res,resAll,resOne,kill,apartOk,exp,injV,injB,pur,purs,purR,pursR,List.reduceReplicate,Nat.reduceMul,Nat.reduceSub,Nat.reduceEqDiff,Int.reduceToNat,Int.reduceLE,Int.reduceLT,Int.reduceEq,reduceCtorEq,↓reduceIte]
      repeat(refine And.intro (by omega) ?_)
      refine⟨j+1,hK2 _ (by omega) (by omega),Hd.of [0,1,2,3,4,5,6,7,8,9,10,11,14] (by decide) (by decide) (by simp) ?_⟩
      simp only[←Nat.add_assoc,hst,gc,gcVs,gcV,posOf,gcH,gcB,Option.map_some,Option.map_none,List.replicate_zero,List.drop_zero,List.map_cons,List.map_nil,Nat.reduceLT,nth_asl,look_cons,look_nil,reduceCtorEq,↓reduceIte,Nat.reduceEqDiff,Int.cast_ofNat_Int,List.append_nil,List.cons_append,List.nil_append,asl_length,and_true,true_and,Nat.zero_add,Nat.add_zero,Nat.reduceAdd,qcz,qc0,List.reduceReplicate]
    obtain rfl:j=8:=by omega
    have d1:¬((8:Nat):Int)<8:=by omega
    have hM16:M.take (8+8)=M:=List.take_of_length_le (by omega)
    have pE2:=pz E hEl
    simp only[hM16,show 8+8=16 from rfl]
    simp only[d1,sM,hMl,g3,k3,y3l,y2l,sy2,sH,hHl,py3,q1,f1,qc,fc,hcl,hEl,sX',sk,sn,hkl,hnl,pE2,sub_zero,qdb,qai,List.length_cons,List.length_nil,Nat.reduceAdd,Nat.le_refl,Nat.reduceLeDiff,Nat.reduceLT,true_and,and_true,↓evA,evB,evs,evp,mkB,repB,blen,↓retQ,res,resAll,resOne,kill,apartOk,exp,injV,injB,pur,purs,purR,pursR,List.reduceReplicate,Nat.reduceMul,Nat.reduceSub,Nat.reduceEqDiff,Int.reduceToNat,Int.reduceLE,Int.reduceLT,Int.reduceEq,reduceCtorEq,↓reduceIte]
    repeat(refine And.intro (by omega) ?_)
    refine awp_loopA (n:=117) hA [11,15,19,20] (by decide +kernel) (fun j:Nat=>[if j=0 then .nils else .slice 14 0 1 j j,.ptr 11 0,.ptr 13 0,.int .i64 (j:Int)])
      (fun j=>[.ints true .u64 roots,.dead,.dead,.dead,.ints true .u8 X,.ints true .u8 a,.ints true .u8 [],.ints false .u8 k,.ints false .u8 n,.ints false .u8 Q,.ints false .u8 H,.ints false .u8 y3,.ints false .u8 M,.ints false .u8 E]++(if j=0 then []else [.ints false .u8 (T.take j)])) (fun j=>j≤16) (fun j=>16-j) 0 ?_ (by omega) ?_
    · refine Hd.same ?_
      simp only[if_true,List.append_nil,List.map_cons,List.map_nil,Nat.reduceLT,nth_asl,look_cons,look_nil,reduceCtorEq,↓reduceIte,Nat.reduceEqDiff,Int.cast_ofNat_Int,List.cons_append,List.nil_append,asl_length,and_true,true_and,Nat.zero_add,Nat.add_zero,Nat.reduceAdd,qcz,qc0,List.reduceReplicate]
    intro j hj3 K3 hK3
    simp only[s71,s56,s72]
    by_cases hlj:j<16
    · have d1:(j:Int)<16:=by omega
      have wj:Go.IntKind.i64.wrap ((j:Int)+1)=((j+1:Nat):Int):=by rw[wrap_i64];omega
      have hst:=hTt j hlj
      have hls:(T.take j).length=j:=by rw[List.length_take];omega
      have ne1f:(j+1=0)=False:=eq_false (by omega)
      by_cases h0:j=0
      · have e0:(j=0)=True:=eq_true h0
        have hst0:T.take (j+1)=[bXor .u8 (getI y3 j) (getI E j)]:=by rw[hst,h0];rfl
        have hsl1:V.slice 14 0 1 (j+1) (j+1)=V.slice 14 0 1 1 1:=by rw[h0]
        simp only[e0,if_true,List.append_nil]
        simp only[d1,wj,y3l,hEl,hlj,sub_zero,qdb,qai,List.length_cons,List.length_nil,Nat.reduceAdd,Nat.le_refl,Nat.reduceLeDiff,Nat.reduceLT,true_and,and_true,↓evA,evB,evs,evp,mkB,repB,blen,↓retQ,res,resAll,resOne,kill,apartOk,exp,injV,injB,pur,purs,purR,pursR,List.reduceReplicate,Nat.reduceMul,Nat.reduceSub,Nat.reduceEqDiff,Int.reduceToNat,Int.reduceLE,Int.reduceLT,Int.reduceEq,reduceCtorEq,↓reduceIte]
        repeat(refine And.intro (by omega) ?_)
        refine⟨j+1,hK3 _ (by omega) (by omega),Hd.of [0,1,2,3,4,5,6,7,8,9,10,11,12,13,15] (by decide) (by decide) (by simp) ?_⟩
        simp only[ne1f,if_false,hst0,hsl1,List.cons_append,List.nil_append,gc,gcVs,gcV,posOf,gcH,gcB,Option.map_some,Option.map_none,List.replicate_zero,List.drop_zero,List.map_cons,List.map_nil,Nat.reduceLT,nth_asl,look_cons,look_nil,reduceCtorEq,↓reduceIte,Nat.reduceEqDiff,Int.cast_ofNat_Int,List.append_nil,asl_length,and_true,true_and,Nat.zero_add,Nat.add_zero,Nat.reduceAdd,qcz,qc0,List.reduceReplicate]
      · have e0:(j=0)=False:=eq_false h0
        simp only[e0,if_false,List.cons_append,List.nil_append]
        simp only[d1,wj,y3l,hEl,hlj,hls,sub_zero,qdb,qai,List.length_cons,List.length_nil,Nat.reduceAdd,Nat.le_refl,Nat.reduceLeDiff,Nat.reduceLT,true_and,and_true,↓evA,evB,evs,evp,mkB,repB,blen,↓retQ,res,resAll,resOne,kill,apartOk,exp,injV,injB,pur,purs,purR,pursR,List.reduceReplicate,Nat.reduceMul,Nat.reduceSub,Nat.reduceEqDiff,Int.reduceToNat,Int.reduceLE,Int.reduceLT,Int.reduceEq,reduceCtorEq,↓reduceIte]
        repeat(refine And.intro (by omega) ?_)
        refine⟨j+1,hK3 _ (by omega) (by omega),Hd.of [0,1,2,3,4,5,6,7,8,9,10,11,12,13,16] (by decide) (by decide) (by simp) ?_⟩
        simp only[ne1f,if_false,hst,List.cons_append,List.nil_append,gc,gcVs,gcV,posOf,gcH,gcB,Option.map_some,Option.map_none,List.replicate_zero,List.drop_zero,List.map_cons,List.map_nil,Nat.reduceLT,nth_asl,look_cons,look_nil,reduceCtorEq,↓reduceIte,Nat.reduceEqDiff,Int.cast_ofNat_Int,List.append_nil,asl_length,and_true,true_and,Nat.zero_add,Nat.add_zero,Nat.reduceAdd,qcz,qc0,List.reduceReplicate]
    obtain rfl:j=16:=by omega
    have d1:¬((16:Nat):Int)<16:=by omega
    have hT16:T.take 16=T:=List.take_of_length_le (by omega)
    simp only[show ((16:Nat)=0)=False from eq_false (by decide),if_false,List.cons_append,List.nil_append,hT16]
    have sT:sub T 0 16=T:=sub_zero hTl
    simp only[d1,sub_zero,qdb,qai,List.length_cons,List.length_nil,Nat.reduceAdd,Nat.le_refl,Nat.reduceLeDiff,Nat.reduceLT,true_and,and_true,↓evA,evB,evs,evp,mkB,repB,blen,↓retQ,res,resAll,resOne,kill,apartOk,exp,injV,injB,pur,purs,purR,pursR,List.reduceReplicate,Nat.reduceMul,Nat.reduceSub,Nat.reduceEqDiff,Int.reduceToNat,Int.reduceLE,Int.reduceLT,Int.reduceEq,reduceCtorEq,↓reduceIte]
    simp only[out,outs,out1,pur,hTl,sT,List.nil_append,Nat.zero_add,purs,qcz,qc0,List.not_mem_nil,not_false_eq_true,true_and,and_true,Nat.reduceLeDiff,Nat.le_refl]
  have hb1:0<b.length:=List.length_pos_iff.2 hb0
  refine awp_loopA (n:=117) hA [0,3,4,6,7,11,12,13] (by decide +kernel) (fun i:Nat=>[.slice 4 0 1 X.length X.length,.slice 5 0 1 a.length a.length,.slice 6 0 1 b.length b.length,.ptr 7 0,.ptr 8 0,if i=0 then .nils else .slice 10 0 1 i i,.ptr 9 0,.int .i64 (i:Int)])
    (fun i=>[.ints true .u64 roots,.dead,.dead,.dead,.ints true .u8 X,.ints true .u8 a,.ints true .u8 b,.ints false .u8 k,.ints false .u8 n,.ints false .u8 (if i=0 then z16 else strB L n ((i-1)/16))]++(if i=0 then []else [.ints false .u8 (S.take i)])) (fun i=>i≤b.length) (fun i=>b.length-i) 0 ?_ (by omega) ?_
  · refine Hd.same ?_
    simp only[if_true,z16,List.map_cons,List.map_nil,Nat.reduceLT,nth_asl,look_cons,look_nil,reduceCtorEq,↓reduceIte,Nat.reduceEqDiff,Int.cast_ofNat_Int,List.append_nil,List.cons_append,List.nil_append,asl_length,and_true,true_and,Nat.zero_add,Nat.add_zero,Nat.reduceAdd,qcz,qc0,List.reduceReplicate]
  intro i hi K hK
  simp only[s71,s56,s72]
  by_cases hlt:i<b.length
  · have c1:(i:Int)<(b.length:Int):=by omega
    have wi:Go.IntKind.i64.wrap ((i:Int)+1)=((i+1:Nat):Int):=by rw[wrap_i64];omega
    have tm:(i:Int).tmod 16=((i%16:Nat):Int):=tmod_nat (k:=16)
    have wd:Go.IntKind.i64.wrap ((i:Int).tdiv 16)=((i/16:Nat):Int):=by
      rw[Int.tdiv_eq_ediv_of_nonneg (by omega),wrap_i64];omega
    have w2:Go.IntKind.i64.wrap (((i/16:Nat):Int)+2)=((i/16+2:Nat):Int):=by rw[wrap_i64];omega
    have hst:=hSt i hlt
    have hm16:i%16<16:=Nat.mod_lt _ (by decide)
    have hB:=strB_ok hL hn (i/16)
    have hCo:=crF_ok hn (i/16+2)
    have hcr:crF n (i/16+2)=ctrF n (Go.IntKind.u32.wrap (Go.IntKind.u32.wrap ((i/16:Nat):Int)+2)):=by
      have hw:Go.IntKind.u32.wrap (Go.IntKind.u32.wrap ((i/16:Nat):Int)+2)=((i/16+2:Nat):Int):=by rw[wrap_u32,wrap_u32];omega
      rw[hw,cr_ctr hn (by omega)]
    have qk:preCr [.v (.ints .u8 n),.v (.int .i64 ((i/16+2:Nat):Int))]:=⟨n,i/16+2,rfl,hn,by omega⟩
    have fk:F71 [.v (.ints .u8 n),.v (.int .i64 ((i/16+2:Nat):Int))]=.one (.v (.ints .u8 (crF n (i/16+2)))):=by
      show Out.one (.v (.ints .u8 (crF n (((i/16+2:Nat):Int).toNat))))=_
      rw[Int.toNat_natCast]
    have qj:=qe _ hCo
    have fj:=fe _ hCo
    have hj:encF L (crF n (i/16+2))=strB L n (i/16):=by rw[hcr,strB]
    rw[hj]at fj
    obtain⟨co,hco⟩:∃x,crF n (i/16+2)=x:=⟨_,rfl⟩
    rw[hco]at hCo fk qj fj
    have hpB:∀z:List Int,z.length=16→spl z 0 (strB L n (i/16))=strB L n (i/16):=fun z hz=>qdb (by rw[hB.1];omega)
    obtain⟨B,hBe⟩:∃B,strB L n (i/16)=B:=⟨_,rfl⟩
    rw[hBe]at hB fj hst
    simp only[hBe]at hpB
    have hBl:=hB.1
    have hcol:=hCo.1
    have sX':=qdd X
    have ne1f:(i+1=0)=False:=eq_false (by omega)
    have hsl1:i=0→V.slice 10 0 1 (i+1) (i+1)=V.slice 10 0 1 1 1:=fun h=>by rw[h]
    have hls:(S.take i).length=i:=by rw[List.length_take];omega
    have hle:B=strB L n ((i+1-1)/16):=by rw[←hBe,Nat.add_sub_cancel]
    by_cases h0:i=0
    · have e0:(i=0)=True:=eq_true h0
      have c2:(((i%16:Nat):Int)=0)=True:=eq_true (by omega)
      have pB:=hpB z16 rfl
      have hst0:S.take (i+1)=[bXor .u8 (getI b i) (getI B (i%16))]:=by rw[hst,h0];rfl
      have h11:(1:Nat)=i+1:=by omega
      rw[z16e]at pB
      simp only[e0,if_true,List.append_nil,z16,List.reduceReplicate]
      simp only[c1,wi,n16,tm,c2,wd,w2,qk,fk,qj,fj,hcol,hBl,sk,sn,hkl,hnl,sX',pB,hlt,hm16,sub_zero,qdb,qai,List.length_cons,List.length_nil,Nat.reduceAdd,Nat.le_refl,Nat.reduceLeDiff,Nat.reduceLT,true_and,and_true,↓evA,evB,evs,evp,mkB,repB,blen,↓retQ,res,resAll,resOne,kill,apartOk,exp,injV,injB,pur,purs,purR,pursR,List.reduceReplicate,Nat.reduceMul,Nat.reduceSub,Nat.reduceEqDiff,Int.reduceToNat,Int.reduceLE,Int.reduceLT,Int.reduceEq,reduceCtorEq,↓reduceIte]
      repeat(refine And.intro (by omega) ?_)
      refine⟨i+1,hK _ (by omega) (by omega),Hd.of [0,1,2,3,4,5,6,7,8,9,11] (by decide) (by decide) (by simp) ?_⟩
      simp only[ne1f,if_false,←hle,hst0,hsl1 h0,List.cons_append,List.nil_append,gc,gcVs,gcV,posOf,gcH,gcB,Option.map_some,Option.map_none,List.replicate_zero,List.drop_zero,List.map_cons,List.map_nil,Nat.reduceLT,nth_asl,look_cons,look_nil,reduceCtorEq,↓reduceIte,Nat.reduceEqDiff,Int.cast_ofNat_Int,List.append_nil,asl_length,and_true,true_and,Nat.zero_add,Nat.add_zero,Nat.reduceAdd,qcz,qc0,List.reduceReplicate]
    have e0:(i=0)=False:=eq_false h0
    have hBp:=strB_ok hL hn ((i-1)/16)
    simp only[e0,if_false,List.cons_append,List.nil_append]
    by_cases h2:i%16=0
    · have c2:(((i%16:Nat):Int)=0)=True:=eq_true (by omega)
      have pB:=hpB _ hBp.1
      have hBpl:=hBp.1
      obtain⟨P,hP⟩:∃P,strB L n ((i-1)/16)=P:=⟨_,rfl⟩
      rw[hP]at pB hBpl ⊢
      simp only[c1,wi,n16,tm,c2,wd,w2,qk,fk,qj,fj,hcol,hBl,hBpl,sk,sn,hkl,hnl,sX',pB,hlt,hm16,hls,sub_zero,qdb,qai,List.length_cons,List.length_nil,Nat.reduceAdd,Nat.le_refl,Nat.reduceLeDiff,Nat.reduceLT,true_and,and_true,↓evA,evB,evs,evp,mkB,repB,blen,↓retQ,res,resAll,resOne,kill,apartOk,exp,injV,injB,pur,purs,purR,pursR,List.reduceReplicate,Nat.reduceMul,Nat.reduceSub,Nat.reduceEqDiff,Int.reduceToNat,Int.reduceLE,Int.reduceLT,Int.reduceEq,reduceCtorEq,↓reduceIte]
      repeat(refine And.intro (by omega) ?_)
      refine⟨i+1,hK _ (by omega) (by omega),Hd.of [0,1,2,3,4,5,6,7,8,9,12] (by decide) (by decide) (by simp) ?_⟩
      simp only[ne1f,if_false,←hle,hst,List.cons_append,List.nil_append,gc,gcVs,gcV,posOf,gcH,gcB,Option.map_some,Option.map_none,List.replicate_zero,List.drop_zero,List.map_cons,List.map_nil,Nat.reduceLT,nth_asl,look_cons,look_nil,reduceCtorEq,↓reduceIte,Nat.reduceEqDiff,Int.cast_ofNat_Int,List.append_nil,asl_length,and_true,true_and,Nat.zero_add,Nat.add_zero,Nat.reduceAdd,qcz,qc0,List.reduceReplicate]
    · have c2:(((i%16:Nat):Int)=0)=False:=eq_false (by omega)
      have hBe2:strB L n ((i-1)/16)=B:=by rw[←hBe,show (i-1)/16=i/16 by omega]
      rw[hBe2]
      simp only[c1,wi,n16,tm,c2,hBl,hlt,hm16,hls,sub_zero,qdb,qai,List.length_cons,List.length_nil,Nat.reduceAdd,Nat.le_refl,Nat.reduceLeDiff,Nat.reduceLT,true_and,and_true,↓evA,evB,evs,evp,mkB,repB,blen,↓retQ,res,resAll,resOne,kill,apartOk,exp,injV,injB,pur,purs,purR,pursR,List.reduceReplicate,Nat.reduceMul,Nat.reduceSub,Nat.reduceEqDiff,Int.reduceToNat,Int.reduceLE,Int.reduceLT,Int.reduceEq,reduceCtorEq,↓reduceIte]
      repeat(refine And.intro (by omega) ?_)
      refine⟨i+1,hK _ (by omega) (by omega),Hd.of [0,1,2,3,4,5,6,7,8,9,12] (by decide) (by decide) (by simp) ?_⟩
      simp only[ne1f,if_false,←hle,hst,List.cons_append,List.nil_append,gc,gcVs,gcV,posOf,gcH,gcB,Option.map_some,Option.map_none,List.replicate_zero,List.drop_zero,List.map_cons,List.map_nil,Nat.reduceLT,nth_asl,look_cons,look_nil,reduceCtorEq,↓reduceIte,Nat.reduceEqDiff,Int.cast_ofNat_Int,List.append_nil,asl_length,and_true,true_and,Nat.zero_add,Nat.add_zero,Nat.reduceAdd,qcz,qc0,List.reduceReplicate]
  obtain rfl:i=b.length:=by omega
  have c1:¬(b.length:Int)<(b.length:Int):=by omega
  have eb0:(b.length=0)=False:=eq_false (by omega)
  have hSt2:S.take b.length=S:=List.take_of_length_le (by omega)
  have sX':=qdd X
  obtain⟨Q,hQ⟩:∃Q,strB L n ((b.length-1)/16)=Q:=⟨_,rfl⟩
  simp only[eb0,if_false,hSt2,hQ,List.cons_append,List.nil_append]
  simp only[c1,sX',qz,fz,sk,sn,sa,sS,sH,hkl,hnl,hHl,pH,g1,k1,g2,k2,y1l,y2l,py2,sub_zero,qdb,qai,List.length_cons,List.length_nil,Nat.reduceAdd,Nat.le_refl,Nat.reduceLeDiff,Nat.reduceLT,true_and,and_true,↓evA,evB,evs,evp,mkB,repB,blen,↓retQ,res,resAll,resOne,kill,apartOk,exp,injV,injB,pur,purs,purR,pursR,List.reduceReplicate,Nat.reduceMul,Nat.reduceSub,Nat.reduceEqDiff,Int.reduceToNat,Int.reduceLE,Int.reduceLT,Int.reduceEq,reduceCtorEq,↓reduceIte]
  repeat(refine And.intro (by omega) ?_)
  refine awp_loopA (n:=117) hA [0,3,4,6,7,11,14,15,16,17] (by decide +kernel) (fun j:Nat=>[.slice 4 0 1 X.length X.length,.slice 5 0 1 a.length a.length,.slice 6 0 1 b.length b.length,.ptr 7 0,.ptr 8 0,.slice 10 0 1 b.length b.length,.ptr 11 0,.ptr 12 0,if j=0 then .nils else .slice 13 0 1 j j,.int .i64 (j:Int)])
    (fun j=>[.ints true .u64 roots,.dead,.dead,.dead,.ints true .u8 X,.ints true .u8 a,.ints true .u8 b,.ints false .u8 k,.ints false .u8 n,.ints false .u8 Q,.ints false .u8 S,.ints false .u8 H,.ints false .u8 y2]++(if j=0 then []else [.ints false .u8 (M.take j)])) (fun j=>j≤8) (fun j=>8-j) 0 ?_ (by omega) ?_
  · refine Hd.same ?_
    simp only[if_true,List.append_nil,List.map_cons,List.map_nil,Nat.reduceLT,nth_asl,look_cons,look_nil,reduceCtorEq,↓reduceIte,Nat.reduceEqDiff,Int.cast_ofNat_Int,List.cons_append,List.nil_append,asl_length,and_true,true_and,Nat.zero_add,Nat.add_zero,Nat.reduceAdd,qcz,qc0,List.reduceReplicate]
  intro j hj K1 hK1
  simp only[s71,s56,s72]
  by_cases hlj:j<8
  · have d1:(j:Int)<8:=by omega
    have wj:Go.IntKind.i64.wrap ((j:Int)+1)=((j+1:Nat):Int):=by rw[wrap_i64];omega
    have wm:Go.IntKind.i64.wrap (8*(j:Int))=((8*j:Nat):Int):=by rw[wrap_i64];omega
    have ws:Go.IntKind.i64.wrap (56-((8*j:Nat):Int))=((56-8*j:Nat):Int):=by rw[wrap_i64];omega
    have hst:=hM1 j hlj
    have ne1f:(j+1=0)=False:=eq_false (by omega)
    have hls:(M.take j).length=j:=by rw[List.length_take];omega
    by_cases h0:j=0
    · have e0:(j=0)=True:=eq_true h0
      have hst0:M.take (j+1)=[Go.IntKind.u8.wrap (iShr .u64 la ((56-8*j:Nat):Int))]:=by rw[hst,h0];rfl
      have hsl1:V.slice 13 0 1 (j+1) (j+1)=V.slice 13 0 1 1 1:=by rw[h0]
      simp only[e0,if_true,List.append_nil]
      simp only[d1,wj,wm,ws,ea,sub_zero,qdb,qai,List.length_cons,List.length_nil,Nat.reduceAdd,Nat.le_refl,Nat.reduceLeDiff,Nat.reduceLT,true_and,and_true,↓evA,evB,evs,evp,mkB,repB,blen,↓retQ,res,resAll,resOne,kill,apartOk,exp,injV,injB,pur,purs,purR,pursR,List.reduceReplicate,Nat.reduceMul,Nat.reduceSub,Nat.reduceEqDiff,Int.reduceToNat,Int.reduceLE,Int.reduceLT,Int.reduceEq,reduceCtorEq,↓reduceIte]
      repeat(refine And.intro (by omega) ?_)
      refine⟨j+1,hK1 _ (by omega) (by omega),Hd.of [0,1,2,3,4,5,6,7,8,9,10,11,12,14] (by decide) (by decide) (by simp) ?_⟩
      simp only[ne1f,if_false,hst0,hsl1,List.cons_append,List.nil_append,gc,gcVs,gcV,posOf,gcH,gcB,Option.map_some,Option.map_none,List.replicate_zero,List.drop_zero,List.map_cons,List.map_nil,Nat.reduceLT,nth_asl,look_cons,look_nil,reduceCtorEq,↓reduceIte,Nat.reduceEqDiff,Int.cast_ofNat_Int,List.append_nil,asl_length,and_true,true_and,Nat.zero_add,Nat.add_zero,Nat.reduceAdd,qcz,qc0,List.reduceReplicate]
    · have e0:(j=0)=False:=eq_false h0
      simp only[e0,if_false,List.cons_append,List.nil_append]
      simp only[d1,wj,wm,ws,ea,hls,sub_zero,qdb,qai,List.length_cons,List.length_nil,Nat.reduceAdd,Nat.le_refl,Nat.reduceLeDiff,Nat.reduceLT,true_and,and_true,↓evA,evB,evs,evp,mkB,repB,blen,↓retQ,res,resAll,resOne,kill,apartOk,exp,injV,injB,pur,purs,purR,pursR,List.reduceReplicate,Nat.reduceMul,Nat.reduceSub,Nat.reduceEqDiff,Int.reduceToNat,Int.reduceLE,Int.reduceLT,Int.reduceEq,reduceCtorEq,↓reduceIte]
      repeat(refine And.intro (by omega) ?_)
      refine⟨j+1,hK1 _ (by omega) (by omega),Hd.of [0,1,2,3,4,5,6,7,8,9,10,11,12,15] (by decide) (by decide) (by simp) ?_⟩
      simp only[ne1f,if_false,hst,List.cons_append,List.nil_append,gc,gcVs,gcV,posOf,gcH,gcB,Option.map_some,Option.map_none,List.replicate_zero,List.drop_zero,List.map_cons,List.map_nil,Nat.reduceLT,nth_asl,look_cons,look_nil,reduceCtorEq,↓reduceIte,Nat.reduceEqDiff,Int.cast_ofNat_Int,List.append_nil,asl_length,and_true,true_and,Nat.zero_add,Nat.add_zero,Nat.reduceAdd,qcz,qc0,List.reduceReplicate]
  obtain rfl:j=8:=by omega
  have d1:¬((8:Nat):Int)<8:=by omega
  simp only[show ((8:Nat)=0)=False from eq_false (by decide),if_false,List.cons_append,List.nil_append]
  simp only[d1,sub_zero,qdb,qai,List.length_cons,List.length_nil,Nat.reduceAdd,Nat.le_refl,Nat.reduceLeDiff,Nat.reduceLT,true_and,and_true,↓evA,evB,evs,evp,mkB,repB,blen,↓retQ,res,resAll,resOne,kill,apartOk,exp,injV,injB,pur,purs,purR,pursR,List.reduceReplicate,Nat.reduceMul,Nat.reduceSub,Nat.reduceEqDiff,Int.reduceToNat,Int.reduceLE,Int.reduceLT,Int.reduceEq,reduceCtorEq,↓reduceIte]
  refine awp_loopA (n:=117) hA [0,4,6,7,11,14,15,16,18] (by decide +kernel) (fun j:Nat=>[.slice 4 0 1 X.length X.length,.slice 6 0 1 b.length b.length,.ptr 7 0,.ptr 8 0,.slice 10 0 1 b.length b.length,.ptr 11 0,.ptr 12 0,.slice 13 0 1 (8+j) (8+j),.int .i64 (j:Int)])
    (fun j=>[.ints true .u64 roots,.dead,.dead,.dead,.ints true .u8 X,.ints true .u8 a,.ints true .u8 b,.ints false .u8 k,.ints false .u8 n,.ints false .u8 Q,.ints false .u8 S,.ints false .u8 H,.ints false .u8 y2,.ints false .u8 (M.take (8+j))]) (fun j=>j≤8) (fun j=>8-j) 0 ?_ (by omega) ?_
  · refine Hd.same ?_
    simp only[List.map_cons,List.map_nil,Nat.reduceLT,nth_asl,look_cons,look_nil,reduceCtorEq,↓reduceIte,Nat.reduceEqDiff,Int.cast_ofNat_Int,List.append_nil,List.cons_append,List.nil_append,asl_length,and_true,true_and,Nat.zero_add,Nat.add_zero,Nat.reduceAdd,qcz,qc0,List.reduceReplicate]
  intro j hj2 K2 hK2
  simp only[s71,s56,s72]
  by_cases hlj:j<8
  · have d1:(j:Int)<8:=by omega
    have wj:Go.IntKind.i64.wrap ((j:Int)+1)=((j+1:Nat):Int):=by rw[wrap_i64];omega
    have wm:Go.IntKind.i64.wrap (8*(j:Int))=((8*j:Nat):Int):=by rw[wrap_i64];omega
    have ws:Go.IntKind.i64.wrap (56-((8*j:Nat):Int))=((56-8*j:Nat):Int):=by rw[wrap_i64];omega
    have hst:=hM2 j hlj
    have hls:(M.take (8+j)).length=8+j:=by rw[List.length_take];omega
    simp only[d1,wj,wm,ws,eb,hls,sub_zero,qdb,qai,List.length_cons,List.length_nil,Nat.reduceAdd,Nat.le_refl,Nat.reduceLeDiff,Nat.reduceLT,true_and,and_true,↓evA,evB,evs,evp,mkB,repB,blen,↓retQ,res,resAll,resOne,kill,apartOk,exp,injV,injB,pur,purs,purR,pursR,List.reduceReplicate,Nat.reduceMul,Nat.reduceSub,Nat.reduceEqDiff,Int.reduceToNat,Int.reduceLE,Int.reduceLT,Int.reduceEq,reduceCtorEq,↓reduceIte]
    repeat(refine And.intro (by omega) ?_)
    refine⟨j+1,hK2 _ (by omega) (by omega),Hd.of [0,1,2,3,4,5,6,7,8,9,10,11,12,15] (by decide) (by decide) (by simp) ?_⟩
    simp only[←Nat.add_assoc,hst,gc,gcVs,gcV,posOf,gcH,gcB,Option.map_some,Option.map_none,List.replicate_zero,List.drop_zero,List.map_cons,List.map_nil,Nat.reduceLT,nth_asl,look_cons,look_nil,reduceCtorEq,↓reduceIte,Nat.reduceEqDiff,Int.cast_ofNat_Int,List.append_nil,List.cons_append,List.nil_append,asl_length,and_true,true_and,Nat.zero_add,Nat.add_zero,Nat.reduceAdd,qcz,qc0,List.reduceReplicate]
  obtain rfl:j=8:=by omega
  have d1:¬((8:Nat):Int)<8:=by omega
  have hM16:M.take (8+8)=M:=List.take_of_length_le (by omega)
  have pE2:=pz E hEl
  simp only[hM16,show 8+8=16 from rfl]
  simp only[d1,sM,hMl,g3,k3,y3l,y2l,sy2,sH,hHl,py3,q1,f1,qc,fc,hcl,hEl,sX',sk,sn,hkl,hnl,pE2,sub_zero,qdb,qai,List.length_cons,List.length_nil,Nat.reduceAdd,Nat.le_refl,Nat.reduceLeDiff,Nat.reduceLT,true_and,and_true,↓evA,evB,evs,evp,mkB,repB,blen,↓retQ,res,resAll,resOne,kill,apartOk,exp,injV,injB,pur,purs,purR,pursR,List.reduceReplicate,Nat.reduceMul,Nat.reduceSub,Nat.reduceEqDiff,Int.reduceToNat,Int.reduceLE,Int.reduceLT,Int.reduceEq,reduceCtorEq,↓reduceIte]
  repeat(refine And.intro (by omega) ?_)
  refine awp_loopA (n:=117) hA [11,15,19,20] (by decide +kernel) (fun j:Nat=>[.slice 10 0 1 (b.length+j) (b.length+j),.ptr 12 0,.ptr 14 0,.int .i64 (j:Int)])
    (fun j=>[.ints true .u64 roots,.dead,.dead,.dead,.ints true .u8 X,.ints true .u8 a,.ints true .u8 b,.ints false .u8 k,.ints false .u8 n,.ints false .u8 Q,.ints false .u8 (S++T.take j),.ints false .u8 H,.ints false .u8 y3,.ints false .u8 M,.ints false .u8 E]) (fun j=>j≤16) (fun j=>16-j) 0 ?_ (by omega) ?_
  · refine Hd.same ?_
    simp only[List.take_zero,List.append_nil,List.map_cons,List.map_nil,Nat.reduceLT,nth_asl,look_cons,look_nil,reduceCtorEq,↓reduceIte,Nat.reduceEqDiff,Int.cast_ofNat_Int,List.cons_append,List.nil_append,asl_length,and_true,true_and,Nat.zero_add,Nat.add_zero,Nat.reduceAdd,qcz,qc0,List.reduceReplicate]
  intro j hj3 K3 hK3
  simp only[s71,s56,s72]
  by_cases hlj:j<16
  · have d1:(j:Int)<16:=by omega
    have wj:Go.IntKind.i64.wrap ((j:Int)+1)=((j+1:Nat):Int):=by rw[wrap_i64];omega
    have hst:=hTt j hlj
    have hls:(T.take j).length=j:=by rw[List.length_take];omega
    have hl2:(S++T.take j).length=b.length+j:=by rw[List.length_append,hls,hSl]
    obtain⟨U,hU⟩:∃U,S++T.take j=U:=⟨_,rfl⟩
    have hst2:S++T.take (j+1)=U++[bXor .u8 (getI y3 j) (getI E j)]:=by rw[hst,←hU,List.append_assoc]
    rw[hU]at hl2 ⊢
    simp only[d1,wj,y3l,hEl,hlj,hl2,sub_zero,qdb,qai,List.length_cons,List.length_nil,Nat.reduceAdd,Nat.le_refl,Nat.reduceLeDiff,Nat.reduceLT,true_and,and_true,↓evA,evB,evs,evp,mkB,repB,blen,↓retQ,res,resAll,resOne,kill,apartOk,exp,injV,injB,pur,purs,purR,pursR,List.reduceReplicate,Nat.reduceMul,Nat.reduceSub,Nat.reduceEqDiff,Int.reduceToNat,Int.reduceLE,Int.reduceLT,Int.reduceEq,reduceCtorEq,↓reduceIte]
    repeat(refine And.intro (by omega) ?_)
    refine⟨j+1,hK3 _ (by omega) (by omega),Hd.of [0,1,2,3,4,5,6,7,8,9,16,11,12,13,14] (by decide) (by decide) (by simp) ?_⟩
    simp only[hst2,←Nat.add_assoc,gc,gcVs,gcV,posOf,gcH,gcB,Option.map_some,Option.map_none,List.replicate_zero,List.drop_zero,List.map_cons,List.map_nil,Nat.reduceLT,nth_asl,look_cons,look_nil,reduceCtorEq,↓reduceIte,Nat.reduceEqDiff,Int.cast_ofNat_Int,List.append_nil,List.cons_append,List.nil_append,asl_length,and_true,true_and,Nat.zero_add,Nat.add_zero,Nat.reduceAdd,qcz,qc0,List.reduceReplicate]
  obtain rfl:j=16:=by omega
  have d1:¬((16:Nat):Int)<16:=by omega
  have hT16:T.take 16=T:=List.take_of_length_le (by omega)
  rw[hT16]
  have hl2:(S++T).length=b.length+16:=by rw[List.length_append,hTl,hSl]
  have sT:sub (S++T) 0 (b.length+16)=S++T:=sub_zero hl2
  simp only[d1,sub_zero,qdb,qai,List.length_cons,List.length_nil,Nat.reduceAdd,Nat.le_refl,Nat.reduceLeDiff,Nat.reduceLT,true_and,and_true,↓evA,evB,evs,evp,mkB,repB,blen,↓retQ,res,resAll,resOne,kill,apartOk,exp,injV,injB,pur,purs,purR,pursR,List.reduceReplicate,Nat.reduceMul,Nat.reduceSub,Nat.reduceEqDiff,Int.reduceToNat,Int.reduceLE,Int.reduceLT,Int.reduceEq,reduceCtorEq,↓reduceIte]
  simp only[out,outs,out1,pur,hl2,sT,Nat.zero_add,purs,qcz,qc0,List.not_mem_nil,not_false_eq_true,true_and,and_true,Nat.reduceLeDiff,Nat.le_refl]
end Am
