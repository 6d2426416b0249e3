/-
Working texts: contracts of functions, and the numbers behind them.
-/
import Derived.Test.YtcefobjfkmfmiaaDoorGcA
set_option linter.unusedSimpArgs false
set_option linter.unusedVariables false
set_option linter.unusedSectionVars false
set_option maxRecDepth 20000
namespace Am
open Go.Proofs
/-! ### Sealed bytes -/
def sealF (k n a b:List Int):List Int:=strF (newF k) n b++tagF (newF k) n a (strF (newF k) n b)
def preSl (ds:List D):Prop:=∃k n a b:List Int,ds=[.v (.ints .u8 k),.v (.ints .u8 n),.s .u8 a,.s .u8 b]∧B16 k∧B12 n∧Dig 256 a∧a.length≤549755813888∧Dig 256 b∧b.length≤549755813888
def F49:List D→Out
  | [.v (.ints _ k),.v (.ints _ n),.s _ a,.s _ b]=>.one (.s .u8 (sealF k n a b))
  | _=>bad
def s49:Summ:=sData [.v,.v,.s .u8,.s .u8] preSl F49
theorem str_len (L n b:List Int):(strF L n b).length=b.length:=xorAt_len
theorem str_dig (L n b:List Int):Dig 256 (strF L n b):=xorAt_dig
theorem new_p {k:List Int} (h:B16 k):preBlk [.v (.ints .u8 k)]:=⟨k,rfl,h.1,h.2⟩
set_option maxHeartbeats 4000000 in
theorem ok49 {g:List Blk} [Ge gl g]:SumOK Tryd.prog g 49 s49∧SumAbs s49:=by
  refine fsumA (l:=[(66,s66),(67,s67),(68,s68)]) mixed gl_plain rfl Tryd.func49 comp49 compR49 nt49 (by simp only[List.mem_cons,List.not_mem_nil,or_false,forall_eq_or_imp,forall_eq];exact⟨ok66,ok67,ok68⟩) fun ds ⟨k,n,a,b,hd,hk,hn,ha,hal,hb,hbl⟩ hA=>?_
  subst hd
  have hkl:=hk.1
  have hnl:=hn.1
  have sk:sub k 0 16=k:=sub_zero hkl
  have sn:sub n 0 12=n:=sub_zero hnl
  have sa:=qdd a
  have sb:=qdd b
  have hF:F49 [.v (.ints .u8 k),.v (.ints .u8 n),.s .u8 a,.s .u8 b]=.one (.s .u8 (strF (newF k) n b++tagF (newF k) n a (strF (newF k) n b))):=rfl
  have q1:=new_p hk
  have hL:=new_ok hk
  have e1:F66 [.v (.ints .u8 k)]=([],.one (.p ((newF k).map fun x=>.v (.int .u8 x)))):=rfl
  obtain⟨L,hLe⟩:∃L,newF k=L:=⟨_,rfl⟩
  rw[hLe]at hL e1 hF
  have q2:preStr [.v (.iface 115 (.rpc (L.map (V.int .u8)) 0)),.v (.ints .u8 n),.s .u8 b]:=⟨_,_,_,rfl,hL,hn,hb,hbl⟩
  have f2:F67 [.v (.iface 115 (.rpc (L.map (V.int .u8)) 0)),.v (.ints .u8 n),.s .u8 b]=.one (.s .u8 (strF L n b)):=by
    show Out.one (.s .u8 (strF (unI (L.map (V.int .u8))) n b))=_
    rw[unI_ints]
  have hSl:=str_len L n b
  have hSd:=str_dig L n b
  obtain⟨S,hS⟩:∃S,strF L n b=S:=⟨_,rfl⟩
  rw[hS]at hSl hSd f2 hF
  have q3:preTag [.v (.iface 115 (.rpc (L.map (V.int .u8)) 0)),.v (.ints .u8 n),.s .u8 a,.s .u8 S]:=⟨_,_,_,_,rfl,hL,hn,ha,hal,hSd,by omega⟩
  have f3:F68 [.v (.iface 115 (.rpc (L.map (V.int .u8)) 0)),.v (.ints .u8 n),.s .u8 a,.s .u8 S]=.one (.v (.ints .u8 (tagF L n a S))):=by
    show Out.one (.v (.ints .u8 (tagF (unI (L.map (V.int .u8))) n a S)))=_
    rw[unI_ints]
  have hT:=tag_ok L n a S
  obtain⟨T,hTe⟩:∃T,tagF L n a S=T:=⟨_,rfl⟩
  rw[hTe]at hT f3 hF
  have hTl:=hT.1
  have pT:spl [0,0,0,0,0,0,0,0,0,0,0,0,0,0,0,0] 0 T=T:=qdb (by simp[hTl])
  have sT:sub T 0 16=T:=sub_zero hTl
  have sS:=qdd S
  simp only[s66,s67,s68]
  simp only[ir49,rs49,gl,hF,sk,sn,hkl,hnl,sa,sb,q1,e1,q2,f2,q3,f3,hTl,pT,sT,sS,injs_ints,blks_ints,cnts_ints,↓frzs_ints,sub_zero,qdb,qai,List.length_cons,List.length_nil,Nat.reduceAdd,Nat.le_refl,Nat.reduceLeDiff,Nat.reduceLT,true_and,and_true,↓qar,↓qan,↓qao,↓qap,↓qam,↓qaj,↓qak,↓qaq,↓qal,idsEs,idsE,idss,killB,effE,stA,wBlk,deads,nwA,cntA,cnts,cnt,valO,blkO,inj,injs,blk,blks,outA,outR,outE,outEs,sids,List.nodup_cons,List.nodup_nil,List.not_mem_nil,List.mem_cons,or_false,false_or,not_or,↓evA,evB,evs,evp,mkB,repB,blen,↓retQ,res,resAll,resOne,kill,apartOk,exp,injV,injB,pur,purs,purR,pursR,List.reduceReplicate,Nat.reduceMul,Nat.reduceSub,Nat.reduceEqDiff,Int.reduceToNat,Int.reduceLE,Int.reduceLT,Int.reduceEq,reduceCtorEq,↓reduceIte]
  repeat(refine And.intro (by omega) ?_)
  simp only[out,outs,out1,pur,purs,qcz,qc0,List.not_mem_nil,not_false_eq_true,true_and,and_true,Nat.reduceLeDiff,Nat.le_refl]
  exact⟨by simp[hTl],sub_zero (by simp[hTl])⟩
/-! ### Opened bytes -/
def dfS (t u:List Int) (d:Int) (i:Nat):Int:=bOr .u8 d (bXor .u8 (getI t i) (getI u i))
def dfF (t u:List Int):Int:=itr (dfS t u) 0 16
def bodyF (b:List Int):List Int:=sub b 0 (b.length-16)
def rightB (k n a b:List Int):Bool:=decide (dfF (tagF (newF k) n a (bodyF b)) (b.drop (b.length-16))=0)
def opnB (k n a b:List Int):Bool:=if b.length<16 then false else rightB k n a b
def opnS (k n a b:List Int):List Int:=if opnB k n a b then strF (newF k) n (bodyF b)else []
def F58:List D→Out
  | [.v (.ints _ k),.v (.ints _ n),.s _ a,.s _ b]=>.many [.s .u8 (opnS k n a b),.v (.bool (opnB k n a b))]
  | _=>bad
def s58:Summ:=sData [.v,.v,.s .u8,.s .u8] preSl F58
set_option maxHeartbeats 4000000 in
theorem ok58 {g:List Blk} [Ge gl g]:SumOK Tryd.prog g 58 s58∧SumAbs s58:=by
  refine fsumA (l:=[(66,s66),(67,s67),(68,s68)]) mixed gl_plain rfl Tryd.func58 comp58 compR58 nt58 (by simp only[List.mem_cons,List.not_mem_nil,or_false,forall_eq_or_imp,forall_eq];exact⟨ok66,ok67,ok68⟩) fun ds ⟨k,n,a,b,hd,hk,hn,ha,hal,hb,hbl⟩ hA=>?_
  subst hd
  have hkl:=hk.1
  have hnl:=hn.1
  have sk:sub k 0 16=k:=sub_zero hkl
  have sn:sub n 0 12=n:=sub_zero hnl
  have sa:=qdd a
  have sb:=qdd b
  have hF:F58 [.v (.ints .u8 k),.v (.ints .u8 n),.s .u8 a,.s .u8 b]=.many [.s .u8 (opnS k n a b),.v (.bool (opnB k n a b))]:=rfl
  simp only[s66,s67,s68]
  by_cases h16:b.length<16
  · have c1:(b.length:Int)<16:=by omega
    have hB:opnB k n a b=false:=by rw[opnB,if_pos h16]
    have hS:opnS k n a b=[]:=by rw[opnS,hB];rfl
    rw[hB,hS]at hF
    simp only[ir58,rs58,gl,hF,sk,sn,hkl,hnl,c1,sub_zero,qdb,qai,List.length_cons,List.length_nil,Nat.reduceAdd,Nat.le_refl,Nat.reduceLeDiff,Nat.reduceLT,true_and,and_true,↓evA,evB,evs,evp,mkB,repB,blen,↓retQ,res,resAll,resOne,kill,apartOk,exp,injV,injB,pur,purs,purR,pursR,List.reduceReplicate,Nat.reduceMul,Nat.reduceSub,Nat.reduceEqDiff,Int.reduceToNat,Int.reduceLE,Int.reduceLT,Int.reduceEq,reduceCtorEq,↓reduceIte]
    repeat(refine And.intro (by omega) ?_)
    simp only[out,outs,out1,pur,purs,qcz,qc0,List.not_mem_nil,not_false_eq_true,true_and,and_true,Nat.reduceLeDiff,Nat.le_refl]
  have c1:¬(b.length:Int)<16:=by omega
  have wn:Go.IntKind.i64.wrap ((b.length:Int)-16)=((b.length-16:Nat):Int):=by rw[wrap_i64];omega
  have q1:=new_p hk
  have hL:=new_ok hk
  have e1:F66 [.v (.ints .u8 k)]=([],.one (.p ((newF k).map fun x=>.v (.int .u8 x)))):=rfl
  have hB:opnB k n a b=decide (dfF (tagF (newF k) n a (bodyF b)) (b.drop (b.length-16))=0):=by rw[opnB,if_neg h16];rfl
  have hS:opnS k n a b=if opnB k n a b then strF (newF k) n (bodyF b)else []:=rfl
  rw[hB]at hS
  rw[hB,hS]at hF
  obtain⟨L,hLe⟩:∃L,newF k=L:=⟨_,rfl⟩
  rw[hLe]at hL e1 hF
  have hBd:Dig 256 (bodyF b):=sub_dig' hb
  have hBl:(bodyF b).length=b.length-16:=by simp[bodyF,sub]
  have hbb:sub b 0 (b.length-16)=bodyF b:=rfl
  obtain⟨d,hdd⟩:∃d,bodyF b=d:=⟨_,rfl⟩
  rw[hdd]at hBd hBl hbb hF
  have q2:preStr [.v (.iface 115 (.rpc (L.map (V.int .u8)) 0)),.v (.ints .u8 n),.s .u8 d]:=⟨_,_,_,rfl,hL,hn,hBd,by omega⟩
  have f2:F67 [.v (.iface 115 (.rpc (L.map (V.int .u8)) 0)),.v (.ints .u8 n),.s .u8 d]=.one (.s .u8 (strF L n d)):=by
    show Out.one (.s .u8 (strF (unI (L.map (V.int .u8))) n d))=_
    rw[unI_ints]
  have hSl:=str_len L n d
  obtain⟨S,hSS⟩:∃S,strF L n d=S:=⟨_,rfl⟩
  rw[hSS]at hSl f2 hF
  have q3:preTag [.v (.iface 115 (.rpc (L.map (V.int .u8)) 0)),.v (.ints .u8 n),.s .u8 a,.s .u8 d]:=⟨_,_,_,_,rfl,hL,hn,ha,hal,hBd,by omega⟩
  have f3:F68 [.v (.iface 115 (.rpc (L.map (V.int .u8)) 0)),.v (.ints .u8 n),.s .u8 a,.s .u8 d]=.one (.v (.ints .u8 (tagF L n a d))):=by
    show Out.one (.v (.ints .u8 (tagF (unI (L.map (V.int .u8))) n a d)))=_
    rw[unI_ints]
  have hT:=tag_ok L n a d
  obtain⟨T,hTe⟩:∃T,tagF L n a d=T:=⟨_,rfl⟩
  rw[hTe]at hT f3 hF
  have hTl:=hT.1
  have pT:spl [0,0,0,0,0,0,0,0,0,0,0,0,0,0,0,0] 0 T=T:=qdb (by simp[hTl])
  have sS:=qdd S
  obtain⟨u,hu⟩:∃u,b.drop (b.length-16)=u:=⟨_,rfl⟩
  have hg:∀i,i<16→getI b (b.length-16+i)=getI u i:=fun i hi=>by
    rw[←hu];simp[getI,List.getD_eq_getElem?_getD,List.getElem?_drop]
  rw[hu]at hF
  obtain⟨N,hN⟩:∃N,b.length-16=N:=⟨_,rfl⟩
  have hNb:N+16=b.length:=by omega
  rw[hN]at wn hbb hg
  have hNl:N≤b.length:=by omega
  obtain⟨Lb,hLb⟩:∃Lb,b.length=Lb:=⟨_,rfl⟩
  rw[hLb]at c1 wn hNb sb hNl
  simp only[ir58,rs58,gl,hF,sk,sn,hkl,hnl,sa,sb,hLb,c1,wn,hbb,hNl,q1,e1,q3,f3,hTl,pT,injs_ints,blks_ints,cnts_ints,↓frzs_ints,sub_zero,qdb,qai,List.length_cons,List.length_nil,Nat.reduceAdd,Nat.le_refl,Nat.reduceLeDiff,Nat.reduceLT,true_and,and_true,↓qar,↓qan,↓qao,↓qap,↓qam,↓qaj,↓qak,↓qaq,↓qal,idsEs,idsE,idss,killB,effE,stA,wBlk,deads,nwA,cntA,cnts,cnt,valO,blkO,inj,injs,blk,blks,outA,outR,outE,outEs,sids,List.nodup_cons,List.nodup_nil,List.not_mem_nil,List.mem_cons,or_false,false_or,not_or,↓evA,evB,evs,evp,mkB,repB,blen,↓retQ,res,resAll,resOne,kill,apartOk,exp,injV,injB,pur,purs,purR,pursR,List.reduceReplicate,Nat.reduceMul,Nat.reduceSub,Nat.reduceEqDiff,Int.reduceToNat,Int.reduceLE,Int.reduceLT,Int.reduceEq,reduceCtorEq,↓reduceIte]
  repeat(refine And.intro (by omega) ?_)
  refine awp_loopA (n:=56) hA [3,5,10,11,12,13,31] (by decide +kernel) (fun i:Nat=>[.slice 5 0 1 Lb Lb,.ptr 7 0,.int .i64 N,.ptr 8 0,.ptr 9 0,.int .u8 (itr (dfS T u) 0 i),.int .i64 i])
    (fun i=>[.ints true .u64 roots,.dead,.dead,.dead,.ints true .u8 a,.ints true .u8 b,.ints false .u8 k,.ints false .u8 n,.cells false (L.map (V.int .u8)),.ints false .u8 T]) (fun i=>i≤16) (fun i=>16-i) 0 ?_ (by omega) ?_
  · refine Hd.same ?_
    simp only[itr,List.map_cons,List.map_nil,Nat.reduceLT,nth_asl,look_cons,look_nil,reduceCtorEq,↓reduceIte,Nat.reduceEqDiff,Int.cast_ofNat_Int,List.append_nil,List.cons_append,List.nil_append,asl_length,and_true,true_and,Nat.zero_add,Nat.add_zero,Nat.reduceAdd,qcz,qc0,List.reduceReplicate]
  intro i hi K hK
  simp only[s66,s67,s68]
  by_cases hlt:i<16
  · have c2:(i:Int)<16:=by omega
    have wi:Go.IntKind.i64.wrap ((i:Int)+1)=((i+1:Nat):Int):=by rw[wrap_i64];omega
    have wj:Go.IntKind.i64.wrap ((N:Int)+(i:Int))=((N+i:Nat):Int):=by rw[wrap_i64];omega
    have hx:itr (dfS T u) 0 (i+1)=bOr .u8 (itr (dfS T u) 0 i) (bXor .u8 (getI T i) (getI u i)):=rfl
    have hgi:=hg i hlt
    have hNi:N+i<Lb:=by omega
    obtain⟨y,hy⟩:∃y,itr (dfS T u) 0 i=y:=⟨_,rfl⟩
    rw[hy]at hx ⊢
    simp only[c2,wi,wj,hTl,hlt,hgi,hNi,hLb,sub_zero,qdb,qai,List.length_cons,List.length_nil,Nat.reduceAdd,Nat.le_refl,Nat.reduceLeDiff,Nat.reduceLT,true_and,and_true,↓evA,evB,evs,evp,mkB,repB,blen,↓retQ,res,resAll,resOne,kill,apartOk,exp,injV,injB,pur,purs,purR,pursR,List.reduceReplicate,Nat.reduceMul,Nat.reduceSub,Nat.reduceEqDiff,Int.reduceToNat,Int.reduceLE,Int.reduceLT,Int.reduceEq,reduceCtorEq,↓reduceIte]
    repeat(refine And.intro (by omega) ?_)
    refine⟨i+1,hK _ (by omega) (by omega),Hd.same ?_⟩
    simp only[hx,List.map_cons,List.map_nil,Nat.reduceLT,nth_asl,look_cons,look_nil,reduceCtorEq,↓reduceIte,Nat.reduceEqDiff,Int.cast_ofNat_Int,List.append_nil,List.cons_append,List.nil_append,asl_length,and_true,true_and,Nat.zero_add,Nat.add_zero,Nat.reduceAdd,qcz,qc0,List.reduceReplicate]
  obtain rfl:i=16:=by omega
  have c2:¬((16:Nat):Int)<16:=by omega
  have hx:itr (dfS T u) 0 16=dfF T u:=rfl
  rw[hx]
  obtain⟨y,hy⟩:∃y,dfF T u=y:=⟨_,rfl⟩
  rw[hy]at hF ⊢
  by_cases h0:y=0
  · subst h0
    simp only[decide_true,if_true]at hF
    simp only[c2,hF,hNl,hLb,hbb,q2,f2,hSl,hBl,sn,hnl,sS,show ¬(0:Int)≠0 by decide,↓frzs_ints,sub_zero,qdb,qai,List.length_cons,List.length_nil,Nat.reduceAdd,Nat.le_refl,Nat.reduceLeDiff,Nat.reduceLT,true_and,and_true,↓qar,↓qan,↓qao,↓qap,↓qam,↓qaj,↓qak,↓qaq,↓qal,idsEs,idsE,idss,killB,effE,stA,wBlk,deads,nwA,cntA,cnts,cnt,valO,blkO,inj,injs,blk,blks,outA,outR,outE,outEs,sids,List.nodup_cons,List.nodup_nil,List.not_mem_nil,List.mem_cons,or_false,false_or,not_or,↓evA,evB,evs,evp,mkB,repB,blen,↓retQ,res,resAll,resOne,kill,apartOk,exp,injV,injB,pur,purs,purR,pursR,List.reduceReplicate,Nat.reduceMul,Nat.reduceSub,Nat.reduceEqDiff,Int.reduceToNat,Int.reduceLE,Int.reduceLT,Int.reduceEq,reduceCtorEq,↓reduceIte]
    have hSL:S.length=Lb-16:=by omega
    have sSl:sub S 0 (Lb-16)=S:=sub_zero hSL
    repeat(refine And.intro (by omega) ?_)
    simp only[out,outs,out1,pur,hSL,sSl,Nat.zero_add,purs,qcz,qc0,List.not_mem_nil,not_false_eq_true,true_and,and_true,Nat.reduceLeDiff,Nat.le_refl]
  · simp only[h0,decide_false,Bool.false_eq_true,if_false]at hF
    simp only[c2,h0,hF,sub_zero,qdb,qai,List.length_cons,List.length_nil,Nat.reduceAdd,Nat.le_refl,Nat.reduceLeDiff,Nat.reduceLT,true_and,and_true,↓qar,↓qan,↓qao,↓qap,↓qam,↓qaj,↓qak,↓qaq,↓qal,idsEs,idsE,idss,killB,effE,stA,wBlk,deads,nwA,cntA,cnts,cnt,valO,blkO,inj,injs,blk,blks,outA,outR,outE,outEs,sids,List.nodup_cons,List.nodup_nil,List.not_mem_nil,List.mem_cons,or_false,false_or,not_or,↓evA,evB,evs,evp,mkB,repB,blen,↓retQ,res,resAll,resOne,kill,apartOk,exp,injV,injB,pur,purs,purR,pursR,List.reduceReplicate,Nat.reduceMul,Nat.reduceSub,Nat.reduceEqDiff,Int.reduceToNat,Int.reduceLE,Int.reduceLT,Int.reduceEq,reduceCtorEq,↓reduceIte]
    simp only[out,outs,out1,pur,purs,qcz,qc0,List.not_mem_nil,not_false_eq_true,true_and,and_true,Nat.reduceLeDiff,Nat.le_refl]
end Am
