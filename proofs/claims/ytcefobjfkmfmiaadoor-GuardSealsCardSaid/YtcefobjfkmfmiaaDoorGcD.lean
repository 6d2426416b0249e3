/-
Working texts: contracts of functions, and the numbers behind them.
-/
import Derived.Test.YtcefobjfkmfmiaaDoorGcA
set_option linter.unusedSimpArgs false
set_option linter.unusedVariables false
set_option linter.unusedSectionVars false
set_option maxRecDepth 20000
namespace Am
open Go.Proofs
/-! ### Sealed bytes -/
def sealF (k n a b:List Int):List Int:=strF (newF k) n b++tagF (newF k) n a (strF (newF k) n b)
def preSl (ds:List D):Prop:=∃k n a b:List Int,ds=[.v (.ints .u8 k),.v (.ints .u8 n),.s .u8 a,.s .u8 b]∧B16 k∧B12 n∧Dig 256 a∧a.length≤549755813888∧Dig 256 b∧b.length≤549755813888
def F49:List D→Out
  | [.v (.ints _ k),.v (.ints _ n),.s _ a,.s _ b]=>.one (.s .u8 (sealF k n a b))
  | _=>bad
def s49:Summ:=sData [.v,.v,.s .u8,.s .u8] preSl F49
theorem str_len (L n b:List Int):(strF L n b).length=b.length:=xorAt_len
theorem str_dig (L n b:List Int):Dig 256 (strF L n b):=xorAt_dig
theorem new_p {k:List Int} (h:B16 k):preBlk [.v (.ints .u8 k)]:=⟨k,rfl,h.1,h.2⟩
set_option maxHeartbeats 4000000 in
theorem ok49 {g:List Blk} [Ge gl g]:SumOK Tryd.prog g 49 s49∧SumAbs s49:=by
  refine fsumA (l:=[(66,s66),(67,s67),(68,s68)]) mixed gl_plain rfl Tryd.func49 comp49 compR49 nt49 (by simp only[List.mem_cons,List.not_mem_nil,or_false,forall_eq_or_imp,forall_eq];exact⟨ok66,ok67,ok68⟩) fun ds ⟨k,n,a,b,hd,hk,hn,ha,hal,hb,hbl⟩ hA=>?_
  subst hd
  have hkl:=hk.1
  have hnl:=hn.1
  have sk:sub k 0 16=k:=sub_zero hkl
  have sn:sub n 0 12=n:=sub_zero hnl
  have sa:=qdd a
  have sb:=qdd b
  have hF:F49 [.v (.ints .u8 k),.v (.ints .u8 n),.s .u8 a,.s .u8 b]=.one (.s .u8 (strF (newF k) n b++tagF (newF k) n a (strF (newF k) n b))):=rfl
  have q1:=new_p hk
  have hL:=new_ok hk
  have e1:F66 [.v (.ints .u8 k)]=([],.one (.p ((newF k).map fun x=>.v (.int .u8 x)))):=rfl
  obtain⟨L,hLe⟩:∃L,newF k=L:=⟨_,rfl⟩
  rw[hLe]at hL e1 hF
  have q2:preStr [.v (.iface 115 (.rpc (L.map (V.int .u8)) 0)),.v (.ints .u8 n),.s .u8 b]:=⟨_,_,_,rfl,hL,hn,hb,hbl⟩
  have f2:F67 [.v (.iface 115 (.rpc (L.map (V.int .u8)) 0)),.v (.ints .u8 n),.s .u8 b]=.one (.s .u8 (strF L n b)):=by
    show Out.one (.s .u8 (strF (unI (L.map (V.int .u8))) n b))=_
    rw[unI_ints]
  have hSl:=str_len L n b
  have hSd:=str_dig L n b
  obtain⟨S,hS⟩:∃S,strF L n b=S:=⟨_,rfl⟩
  rw[hS]at hSl hSd f2 hF
  have q3:preTag [.v (.iface 115 (.rpc (L.map (V.int .u8)) 0)),.v (.ints .u8 n),.s .u8 a,.s .u8 S]:=⟨_,_,_,_,rfl,hL,hn,ha,hal,hSd,by omega⟩
  have f3:F68 [.v (.iface 115 (.rpc (L.map (V.int .u8)) 0)),.v (.ints .u8 n),.s .u8 a,.s .u8 S]=.one (.v (.ints .u8 (tagF L n a S))):=by
    show Out.one (.v (.ints .u8 (tagF (unI (L.map (V.int .u8))) n a S)))=_
    rw[unI_ints]
  have hT:=tag_ok L n a S
  obtain⟨T,hTe⟩:∃T,tagF L n a S=T:=⟨_,rfl⟩
  rw[hTe]at hT f3 hF
  have hTl:=hT.1
  have pT:spl [0,0,0,0,0,0,0,0,0,0,0,0,0,0,0,0] 0 T=T:=qdb (by simp[hTl])
  have sT:sub T 0 16=T:=sub_zero hTl
  have sS:=qdd S
  simp only[s66,s67,s68]
  simp only[ir49,rs49,gl,hF,sk,sn,hkl,hnl,sa,sb,q1,e1,q2,f2,q3,f3,hTl,pT,sT,sS,injs_ints,blks_ints,cnts_ints,↓frzs_ints,sub_zero,qdb,qai,List.length_cons,List.length_nil,Nat.reduceAdd,Nat.le_refl,Nat.reduceLeDiff,Nat.reduceLT,true_and,and_true,↓qar,↓qan,↓qao,↓qap,↓qam,↓qaj,↓qak,↓qaq,↓qal,idsEs,idsE,idss,killB,effE,stA,wBlk,deads,nwA,cntA,cnts,cnt,valO,blkO,inj,injs,blk,blks,outA,outR,outE,outEs,sids,List.nodup_cons,List.nodup_nil,List.not_mem_nil,List.mem_cons,or_false,false_or,not_or,↓evA,evB,evs,evp,mkB,repB,blen,↓retQ,res,resAll,resOne,kill,apartOk,exp,injV,injB,pur,purs,purR,pursR,List.reduceReplicate,Nat.reduceMul,Nat.reduceSub,Nat.reduceEqDiff,Int.reduceToNat,Int.reduceLE,Int.reduceLT,Int.reduceEq,reduceCtorEq,↓reduceIte]
  repeat(refine And.intro (by omega) ?_)
  simp only[out,outs,out1,pur,purs,qcz,qc0,List.not_mem_nil,not_false_eq_true,true_and,and_true,Nat.reduceLeDiff,Nat.le_refl]
  exact⟨by simp[hTl],sub_zero (by simp[hTl])⟩
end Am
