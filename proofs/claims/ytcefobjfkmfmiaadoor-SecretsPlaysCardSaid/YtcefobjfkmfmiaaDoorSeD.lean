/-
Working texts: contracts of functions, and the numbers behind them.
-/
import Derived.Test.YtcefobjfkmfmiaaDoorRfM
import Derived.Test.YtcefobjfkmfmiaaDoorIrG
set_option linter.unusedSimpArgs false
set_option linter.unusedVariables false
set_option linter.unusedSectionVars false
set_option maxRecDepth 20000
namespace Am
open Go.Proofs
/-! ### A new schedule, of any key -/
def preEx2 (ds:List D):Prop:=∃(k:List Int) (v:V),ds=[.s .u8 k,.v v]∧Dig 256 k∧k.length≤549755813888∧Part v∧(flat [v]).length≤549755813888
def FEx2:List D→Out
  | [.s _ k,.v v]=>.one (.v (.ints .u8 (hmac k (flat [v]))))
  | _=>bad
def sEx2:Summ:=sData [.s .u8,.r] preEx2 FEx2
theorem okEx2 {g:List Blk} [Ge gl g]:SumOK Tryd.prog g 39 sEx2∧SumAbs sEx2:=by
  refine fsumA (l:=[(41,s41)]) mixed gl_plain rfl Tryd.func39 comp39 compR39 nt39 (by simp only[List.mem_cons,List.not_mem_nil,or_false,forall_eq];exact ok41) fun ds ⟨k,v,hd,hk,hkl,hv,hvl⟩ hA=>?_
  subst hd
  simp only[s41]
  have q:pre41 [.s .u8 k,.v (.rcs 1 1 [v])]:=⟨k,[v],rfl,hk,hkl,parts_cons hv parts_nil,by omega,by simp⟩
  have s1:sub k 0 k.length=k:=sub_zero rfl
  have hF:FEx2 [.s .u8 k,.v v]=.one (.v (.ints .u8 (hmac k (flat [v])))):=rfl
  obtain⟨h,hh⟩:∃h,hmac k (flat [v])=h:=⟨_,rfl⟩
  rw[hh]at hF
  have hhl:h.length=32:=by rw[←hh,hmac_len]
  have sm:sub h 0 32=h:=sub_zero hhl
  rcases hv with rfl | ⟨xs,rfl,hx⟩
  all_goals
    simp only[ir39,rs39,gl,hF,s41,F41,q,s1,sm,hh,hhl,sub_zero,qdb,qai,List.length_cons,List.length_nil,Nat.reduceAdd,Nat.le_refl,Nat.reduceLeDiff,Nat.reduceLT,true_and,and_true,↓evA,evB,evs,evp,mkB,repB,blen,↓retQ,res,resAll,resOne,kill,apartOk,exp,injV,injB,pur,purs,purR,pursR,List.reduceReplicate,Nat.reduceMul,Nat.reduceSub,Nat.reduceEqDiff,Int.reduceToNat,Int.reduceLE,Int.reduceLT,Int.reduceEq,reduceCtorEq,↓reduceIte]
    repeat(refine And.intro (by omega) ?_)
    exact out_ints rfl
def preNew2 (ds:List E):Prop:=∃v:V,ds=[.v v]∧Part v∧(flat [v]).length≤549755813888
def sNew2:Summ:=sEff [.r] preNew2 F21
set_option maxHeartbeats 1000000 in
theorem okNew2 {g:List Blk} [Ge gl g]:SumOK Tryd.prog g 21 sNew2∧SumAbs sNew2:=by
  refine esumA (l:=[(39,sEx2)]) mixed gl_plain rfl Tryd.func21 comp21 compR21 nt21 (by simp only[List.mem_cons,List.not_mem_nil,or_false,forall_eq];exact okEx2) fun ds ⟨v,hd,hv,hvl⟩ hA=>?_
  subst hd
  have sz:sub zz 0 32=zz:=rfl
  have hF:F21 [.v v]=([],.one (.p (fsS [] (hmac zz (pskOf (flat [v])))))):=rfl
  have main:∀(u:V),Part u→(flat [u]).length≤549755813888→preEx2 [.s .u8 zz,.v u]∧FEx2 [.s .u8 zz,.v u]=.one (.v (.ints .u8 (hmac zz (flat [u])))):=fun u hu hl=>⟨⟨zz,u,rfl,zz_dig,by decide,hu,hl⟩,rfl⟩
  have zrs:zz=[0,0,0,0,0,0,0,0,0,0,0,0,0,0,0,0,0,0,0,0,0,0,0,0,0,0,0,0,0,0,0,0]:=rfl
  have key:∀h:List Int,h.length=32→spl (V.nils::List.replicate 32 (V.int .u8 0)) 1 (h.map (V.int .u8))=.nils::h.map (V.int .u8):=fun h hm=>by simp[spl,hm]
  by_cases h0:(flat [v]).length=0
  · have hp:pskOf (flat [v])=zz:=by rw[pskOf,if_pos h0]
    rw[hp]at hF
    have m1:=main (.rsl 1 32 .u8 zz) (part_rsl' zz_dig rfl) (by decide)
    rw[show flat [V.rsl 1 32 .u8 zz]=zz from by simp[flat]]at m1
    have hm:=hmac_len zz zz
    obtain⟨h,hh⟩:∃h,hmac zz zz=h:=⟨_,rfl⟩
    rw[hh]at m1 hm hF
    have fin':=key h hm
    obtain⟨q,f⟩:=m1
    simp only[zz,List.reduceReplicate]at q f sz fin'
    simp only[sEx2]
    rcases hv with rfl | ⟨xs,rfl,hx⟩
    · simp only[ir21,rs21,gl,hF,sz,q,f,hm,fin',List.length_map,sub_zero,qdb,qai,List.length_cons,List.length_nil,Nat.reduceAdd,Nat.le_refl,Nat.reduceLeDiff,Nat.reduceLT,true_and,and_true,↓qar,↓qan,↓qao,↓qap,↓qam,↓qaj,↓qak,↓qaq,↓qal,idsEs,idsE,idss,killB,effE,stA,wBlk,deads,nwA,cntA,cnts,cnt,valO,blkO,inj,injs,blk,blks,outA,outR,outE,outEs,sids,List.nodup_cons,List.nodup_nil,List.not_mem_nil,List.mem_cons,or_false,false_or,not_or,↓evA,evB,evs,evp,mkB,repB,blen,↓retQ,res,resAll,resOne,kill,apartOk,exp,injV,injB,pur,purs,purR,pursR,List.reduceReplicate,Nat.reduceMul,Nat.reduceSub,Nat.reduceEqDiff,Int.reduceToNat,Int.reduceLE,Int.reduceLT,Int.reduceEq,reduceCtorEq,↓reduceIte]
      refine⟨by decide,by decide,?_⟩
      show outEs _ (.s 1 0 .u8 []::h.map (fun x=>.v (.int .u8 x))) (.nils::h.map (V.int .u8)) _ _
      rw[outEs,outE]
      exact⟨⟨rfl,rfl⟩,outEs_ints trivial⟩
    · have hx0:xs.length=0:=by simpa[flat]using h0
      have c1:(xs.length:Int)=0:=by omega
      simp only[ir21,rs21,gl,hF,c1,sz,q,f,hm,fin',List.length_map,sub_zero,qdb,qai,List.length_cons,List.length_nil,Nat.reduceAdd,Nat.le_refl,Nat.reduceLeDiff,Nat.reduceLT,true_and,and_true,↓qar,↓qan,↓qao,↓qap,↓qam,↓qaj,↓qak,↓qaq,↓qal,idsEs,idsE,idss,killB,effE,stA,wBlk,deads,nwA,cntA,cnts,cnt,valO,blkO,inj,injs,blk,blks,outA,outR,outE,outEs,sids,List.nodup_cons,List.nodup_nil,List.not_mem_nil,List.mem_cons,or_false,false_or,not_or,↓evA,evB,evs,evp,mkB,repB,blen,↓retQ,res,resAll,resOne,kill,apartOk,exp,injV,injB,pur,purs,purR,pursR,List.reduceReplicate,Nat.reduceMul,Nat.reduceSub,Nat.reduceEqDiff,Int.reduceToNat,Int.reduceLE,Int.reduceLT,Int.reduceEq,reduceCtorEq,↓reduceIte]
      refine⟨by decide,by decide,?_⟩
      show outEs _ (.s 1 0 .u8 []::h.map (fun x=>.v (.int .u8 x))) (.nils::h.map (V.int .u8)) _ _
      rw[outEs,outE]
      exact⟨⟨rfl,rfl⟩,outEs_ints trivial⟩
  · have hp:pskOf (flat [v])=flat [v]:=by rw[pskOf,if_neg h0]
    rw[hp]at hF
    obtain⟨q,f⟩:=main v hv hvl
    have hm:=hmac_len zz (flat [v])
    obtain⟨h,hh⟩:∃h,hmac zz (flat [v])=h:=⟨_,rfl⟩
    rw[hh]at f hm hF
    have fin':=key h hm
    simp only[zz,List.reduceReplicate]at q f sz fin'
    simp only[sEx2]
    rcases hv with rfl | ⟨xs,rfl,hx⟩
    · exact absurd rfl h0
    · have hx0:¬xs.length=0:=by simpa[flat]using h0
      have c1:¬(xs.length:Int)=0:=by omega
      simp only[ir21,rs21,gl,hF,c1,sz,q,f,hm,fin',List.length_map,sub_zero,qdb,qai,List.length_cons,List.length_nil,Nat.reduceAdd,Nat.le_refl,Nat.reduceLeDiff,Nat.reduceLT,true_and,and_true,↓qar,↓qan,↓qao,↓qap,↓qam,↓qaj,↓qak,↓qaq,↓qal,idsEs,idsE,idss,killB,effE,stA,wBlk,deads,nwA,cntA,cnts,cnt,valO,blkO,inj,injs,blk,blks,outA,outR,outE,outEs,sids,List.nodup_cons,List.nodup_nil,List.not_mem_nil,List.mem_cons,or_false,false_or,not_or,↓evA,evB,evs,evp,mkB,repB,blen,↓retQ,res,resAll,resOne,kill,apartOk,exp,injV,injB,pur,purs,purR,pursR,List.reduceReplicate,Nat.reduceMul,Nat.reduceSub,Nat.reduceEqDiff,Int.reduceToNat,Int.reduceLE,Int.reduceLT,Int.reduceEq,reduceCtorEq,↓reduceIte]
      refine⟨by decide,?_⟩
      show outEs _ (.s 1 0 .u8 []::h.map (fun x=>.v (.int .u8 x))) (.nils::h.map (V.int .u8)) _ _
      rw[outEs,outE]
      exact⟨⟨rfl,rfl⟩,outEs_ints trivial⟩
/-! ### A sum of the messages and one text more -/
def preLog1 (ds:List D):Prop:=∃(v p:V) (b now:List Int),ds=[.v v,.v (.rcs 1 1 [p])]∧Obj v b now∧Part p∧(flat [p]).length≤549755813888
def FLog1:List D→Out
  | [.v v,.v (.rcs _ _ [p])]=>.one (.v (.ints .u8 (sumS ((getO v).1++flat [p]))))
  | _=>bad
def sLog1:Summ:=sData [.r,.r] preLog1 FLog1
set_option maxHeartbeats 1000000 in
theorem okLog1 {g:List Blk} [Ge gl g]:SumOK Tryd.prog g 46 sLog1∧SumAbs sLog1:=by
  refine fsumA (l:=[(43,s43)]) mixed gl_plain rfl Tryd.func46 comp46 compR46 nt46 (by simp only[List.mem_cons,List.not_mem_nil,or_false,forall_eq];exact ok43) fun ds ⟨v,p,b,now,hd,ho,hp,hpl⟩ hA=>?_
  subst hd
  have hg:=getO_obj ho
  obtain⟨c,rfl,hc,hf,hbl,hn⟩:=ho
  have hF:FLog1 [.v (.rpc (csS c now) 0),.v (.rcs 1 1 [p])]=.one (.v (.ints .u8 (sumS (b++flat [p])))):=by
    show Out.one (.v (.ints .u8 (sumS ((getO (.rpc (csS c now) 0)).1++flat [p]))))=_
    rw[hg]
  have hfl:flat [c,p]=b++flat [p]:=by
    rw[←hf]
    rcases hc with rfl | ⟨xs,rfl,hx⟩
    · rfl
    · simp[flat]
  have q:preParts [.v (.rcs 1 2 [c,p])]:=⟨[c,p],rfl,parts_cons hc (parts_cons hp parts_nil),by rw[hfl,List.length_append];omega,by simp⟩
  have hs:sum256 (padded (flat [c,p]) 64)=sumS (b++flat [p]):=by rw[hfl];rfl
  have sl:(sumS (b++flat [p])).length=32:=sum256_len _
  obtain⟨S,hS⟩:∃S,sumS (b++flat [p])=S:=⟨_,rfl⟩
  rw[hS]at hF hs sl
  have ps:spl [0,0,0,0,0,0,0,0,0,0,0,0,0,0,0,0,0,0,0,0,0,0,0,0,0,0,0,0,0,0,0,0] 0 S=S:=qdb (by simp[sl])
  have ss:sub S 0 32=S:=sub_zero sl
  simp only[csS]at hF
  simp only[s43]
  rcases hc with rfl | ⟨xs,rfl,hx⟩<;>rcases hp with rfl | ⟨ys,rfl,hy⟩
  all_goals
    simp only[ir46,rs46,gl,hF,csS,q,hs,sl,ps,ss,s43,F43,sub_zero,qdb,qai,List.length_cons,List.length_nil,Nat.reduceAdd,Nat.le_refl,Nat.reduceLeDiff,Nat.reduceLT,true_and,and_true,↓evA,evB,evs,evp,mkB,repB,blen,↓retQ,res,resAll,resOne,kill,apartOk,exp,injV,injB,pur,purs,purR,pursR,List.reduceReplicate,Nat.reduceMul,Nat.reduceSub,Nat.reduceEqDiff,Int.reduceToNat,Int.reduceLE,Int.reduceLT,Int.reduceEq,reduceCtorEq,↓reduceIte]
    repeat(refine And.intro (by omega) ?_)
    simp only[out,outs,out1,pur,and_self]
end Am
