/-
Working texts: contracts of functions, and the numbers behind them.
-/
import Derived.Test.YtcefobjfkmfmiaaDoorSeDs
set_option linter.unusedSimpArgs false
set_option linter.unusedVariables false
set_option linter.unusedSectionVars false
set_option maxRecDepth 20000
namespace Am
open Go.Proofs
/-! ### Messages more -/
theorem rdEs_ints {hp hk:List Blk} {k:Go.IntKind}:∀{n:Nat} {xs:List Int} {J:List E→Prop},xs.length=n→rdEs hp hk (List.replicate n .v) (xs.map (V.int k)) J=J (xs.map fun x=>.v (.int k x))
  | 0,[],J,_=>by simp[rdEs]
  | n+1,x::xs,J,h=>by
    rw[List.replicate_succ,List.map_cons,rdEs]
    simp only[rdE,purR,true_and]
    rw[rdEs_ints (by simpa using h)]
    rfl
theorem idsEs_v {hp:List Blk}:∀{n:Nat} {l:List V},idsEs hp (List.replicate n .v) l=[]
  | 0,l=>rfl
  | n+1,[]=>rfl
  | n+1,a::l=>by rw[List.replicate_succ,idsEs,idsE,idsEs_v];rfl
theorem gcVs_ints {keep:List Nat} {k:Go.IntKind}:∀{xs:List Int},gcVs keep (xs.map (V.int k))=xs.map (V.int k)
  | []=>rfl
  | x::xs=>by rw[List.map_cons,gcVs,gcV,gcVs_ints (xs:=xs)]
theorem parts_pur:∀{cs:List V},(∀u∈cs,Part u)→pursR cs=true
  | [],_=>rfl
  | c::cs,h=>by
    rw[pursR,parts_pur fun u hu=>h u (by simp[hu])]
    rcases h c (by simp)with rfl | ⟨xs,rfl,-⟩<;>rfl
def shN:List Sp:=List.replicate 32 .v
theorem idsEs_N {hp:List Blk} {l:List V}:idsEs hp shN l=[]:=idsEs_v
theorem rdEs_N {hp hk:List Blk} {xs:List Int} {J:List E→Prop} (h:xs.length=32):rdEs hp hk shN (xs.map (V.int .u8)) J=J (xs.map fun x=>.v (.int .u8 x)):=rdEs_ints h
def shS1:List Sp:=.g 1 .u8::shN
def preAdL (ds:List E):Prop:=∃(b now:List Int) (cs:List V),ds=[.p (fsS b now),.v (.rcs 1 cs.length cs)]∧Dig 256 b∧Sec now∧(∀u∈cs,Part u)∧cs.length≤1000000∧(b++flat cs).length≤549755813888
def FAdL:List E→List (List E)×EOut
  | [.p (.s _ _ _ b::now),.v (.rcs _ _ cs)]=>([.s 1 (b++flat cs).length .u8 (b++flat cs)::now],.many [])
  | _=>([],.many [])
def sAdL:Summ:=sEff [.p shS1,.r] preAdL FAdL
set_option maxHeartbeats 1000000 in
theorem okAdL {g:List Blk} [Ge gl g]:SumOK Tryd.prog g 45 sAdL∧SumAbs sAdL:=by
  refine esumA (l:=[]) mixed gl_plain rfl Tryd.func45 comp45 compR45 nt45 (by simp) fun ds ⟨b,now,cs,hd,hb,hn,hp,hcl,hl⟩ hA=>?_
  subst hd
  have hnl:=hn.1
  have hF:FAdL [.p (fsS b now),.v (.rcs 1 cs.length cs)]=([fsS (b++flat cs) now],.many []):=rfl
  have sb:=qdd b
  simp only[ir45,rs45,gl,hF,fsS,sb,injs_ints,blks_ints,cnts_ints,sub_zero,qdb,qai,List.length_cons,List.length_nil,Nat.reduceAdd,Nat.le_refl,Nat.reduceLeDiff,Nat.reduceLT,true_and,and_true,↓qar,↓qan,↓qao,↓qap,↓qam,↓qaj,↓qak,↓qaq,↓qal,idsEs,idsE,idss,killB,effE,stA,wBlk,deads,nwA,cntA,cnts,cnt,valO,blkO,inj,injs,blk,blks,outA,outR,outE,outEs,sids,List.nodup_cons,List.nodup_nil,List.not_mem_nil,List.mem_cons,or_false,false_or,not_or,↓evA,evB,evs,evp,mkB,repB,blen,↓retQ,res,resAll,resOne,kill,apartOk,exp,injV,injB,pur,purs,purR,pursR,List.reduceReplicate,Nat.reduceMul,Nat.reduceSub,Nat.reduceEqDiff,Int.reduceToNat,Int.reduceLE,Int.reduceLT,Int.reduceEq,reduceCtorEq,↓reduceIte]
  rw[List.length_append]at hl
  repeat(refine And.intro (by omega) ?_)
  refine awp_loopA (n:=27) hA [0,4,13,14,15] (by decide +kernel) (fun i:Nat=>[.ptr 4 0,.slice 7 0 1 (b++flat (cs.take i)).length (b++flat (cs.take i)).length,.rcs 1 cs.length cs,.int .i64 cs.length,.int .i64 i])
    (fun i=>[.ints true .u64 roots,.dead,.dead,.dead,.cells false (.slice 5 0 1 b.length b.length::now.map (V.int .u8)),.ints false .u8 b,.dead,.ints false .u8 (b++flat (cs.take i))]) (fun i=>i≤cs.length) (fun i=>cs.length-i) 0 ?_ (by omega) ?_
  · refine Hd.same ?_
    simp only[List.take_zero,flat_nil,List.append_nil,↓evA,evB,evs,evp,mkB,repB,blen,↓retQ,res,resAll,resOne,kill,apartOk,exp,injV,injB,pur,purs,purR,pursR,List.reduceReplicate,Nat.reduceAdd,Nat.reduceMul,Nat.reduceSub,Nat.reduceEqDiff,Nat.reduceLT,Int.reduceToNat,Int.reduceLE,Int.reduceLT,Int.reduceEq,reduceCtorEq,↓reduceIte]
  intro i hi K hK
  by_cases hlt:i<cs.length
  · have c1:(i:Int)<(cs.length:Int):=by omega
    have wi:Go.IntKind.i64.wrap ((i:Int)+1)=((i+1:Nat):Int):=by rw[wrap_i64];omega
    obtain⟨hmem,htk⟩:=nth_mem hlt
    have hpi:=hp _ hmem
    have hle:=flat_take_le cs (i+1)
    have hnx:b++flat (cs.take (i+1))=(b++flat (cs.take i))++flat [nth cs i]:=by
      rw[htk,List.append_assoc]
      congr 1
      rcases hpi with h | ⟨xs,h,-⟩
      · rw[h,flat_snoc_nil];simp[flat]
      · rw[h,flat_snoc_rsl];simp[flat]
    obtain⟨x,hx⟩:∃x,nth cs i=x:=⟨_,rfl⟩
    rw[hx]at hpi hnx
    have hbl:(b++flat (cs.take i)).length≤549755813888∧(b++flat (cs.take (i+1))).length≤549755813888:=by
      have:=flat_take_le cs i
      rw[List.length_append,List.length_append];omega
    obtain⟨Y,hY⟩:∃Y,b++flat (cs.take i)=Y:=⟨_,rfl⟩
    rw[hY]at hnx hbl ⊢
    rw[hnx]at hbl
    have hcs:cs.length≤cs.length:=Nat.le_refl _
    rcases hpi with rfl | ⟨xs,rfl,hxd⟩
    · have hf:flat [V.nils]=[]:=rfl
      rw[hf,List.append_nil]at hnx
      have hlen:b.length+(flat (cs.take (i+1))).length=Y.length:=by rw[←List.length_append,hnx]
      simp only[c1,wi,hx,hlt,sub_zero,qdb,qai,List.length_cons,List.length_nil,Nat.reduceAdd,Nat.le_refl,Nat.reduceLeDiff,Nat.reduceLT,true_and,and_true,↓evA,evB,evs,evp,mkB,repB,blen,↓retQ,res,resAll,resOne,kill,apartOk,exp,injV,injB,pur,purs,purR,pursR,List.reduceReplicate,Nat.reduceMul,Nat.reduceSub,Nat.reduceEqDiff,Int.reduceToNat,Int.reduceLE,Int.reduceLT,Int.reduceEq,reduceCtorEq,↓reduceIte]
      repeat(refine And.intro (by omega) ?_)
      refine⟨i+1,hK _ (by omega) (by omega),Hd.of [0,1,2,3,4,5,6,8] (by decide) (by decide) (by simp) ?_⟩
      simp only[hnx,hlen,gcVs_ints,gc,gcVs,gcV,posOf,gcH,gcB,Option.map_some,Option.map_none,List.replicate_zero,List.drop_zero,↓evA,evB,evs,evp,mkB,repB,blen,↓retQ,res,resAll,resOne,kill,apartOk,exp,injV,injB,pur,purs,purR,pursR,List.reduceReplicate,Nat.reduceAdd,Nat.reduceMul,Nat.reduceSub,Nat.reduceEqDiff,Nat.reduceLT,Int.reduceToNat,Int.reduceLE,Int.reduceLT,Int.reduceEq,reduceCtorEq,↓reduceIte]
    · have hf:flat [V.rsl 1 xs.length .u8 xs]=xs:=by simp[flat]
      rw[hf]at hnx hbl
      rw[List.length_append]at hbl
      have hlen:b.length+(flat (cs.take (i+1))).length=Y.length+xs.length:=by rw[←List.length_append,hnx,List.length_append]
      simp only[c1,wi,hx,hlt,sub_zero,qdb,qai,List.length_cons,List.length_nil,Nat.reduceAdd,Nat.le_refl,Nat.reduceLeDiff,Nat.reduceLT,true_and,and_true,↓evA,evB,evs,evp,mkB,repB,blen,↓retQ,res,resAll,resOne,kill,apartOk,exp,injV,injB,pur,purs,purR,pursR,List.reduceReplicate,Nat.reduceMul,Nat.reduceSub,Nat.reduceEqDiff,Int.reduceToNat,Int.reduceLE,Int.reduceLT,Int.reduceEq,reduceCtorEq,↓reduceIte]
      repeat(refine And.intro (by omega) ?_)
      refine⟨i+1,hK _ (by omega) (by omega),Hd.of [0,1,2,3,4,5,6,8] (by decide) (by decide) (by simp) ?_⟩
      simp only[hnx,hlen,gcVs_ints,gc,gcVs,gcV,posOf,gcH,gcB,Option.map_some,Option.map_none,List.replicate_zero,List.drop_zero,↓evA,evB,evs,evp,mkB,repB,blen,↓retQ,res,resAll,resOne,kill,apartOk,exp,injV,injB,pur,purs,purR,pursR,List.reduceReplicate,Nat.reduceAdd,Nat.reduceMul,Nat.reduceSub,Nat.reduceEqDiff,Nat.reduceLT,Int.reduceToNat,Int.reduceLE,Int.reduceLT,Int.reduceEq,reduceCtorEq,↓reduceIte]
  obtain rfl:i=cs.length:=by omega
  have c1:¬(cs.length:Int)<(cs.length:Int):=by omega
  rw[List.take_length]
  obtain⟨Y,hY⟩:∃Y,b++flat cs=Y:=⟨_,rfl⟩
  rw[hY]at hF ⊢
  simp only[fsS]at hF
  simp only[c1,hF,sub_zero,qdb,qai,List.length_cons,List.length_nil,Nat.reduceAdd,Nat.le_refl,Nat.reduceLeDiff,Nat.reduceLT,true_and,and_true,↓qar,↓qan,↓qao,↓qap,↓qam,↓qaj,↓qak,↓qaq,↓qal,idsEs,idsE,idss,killB,effE,stA,wBlk,deads,nwA,cntA,cnts,cnt,valO,blkO,inj,injs,blk,blks,outA,outR,outE,outEs,sids,List.nodup_cons,List.nodup_nil,List.not_mem_nil,List.mem_cons,or_false,false_or,not_or,↓evA,evB,evs,evp,mkB,repB,blen,↓retQ,res,resAll,resOne,kill,apartOk,exp,injV,injB,pur,purs,purR,pursR,List.reduceReplicate,Nat.reduceMul,Nat.reduceSub,Nat.reduceEqDiff,Int.reduceToNat,Int.reduceLE,Int.reduceLT,Int.reduceEq,reduceCtorEq,↓reduceIte]
  refine⟨by omega,?_⟩
  exact outEs_ints trivial
def sAdd:Summ:=sEff [.p shS1,.r] preAdL FAdL
set_option maxHeartbeats 1000000 in
theorem okAdd {g:List Blk} [Ge gl g]:SumOK Tryd.prog g 27 sAdd∧SumAbs sAdd:=by
  refine esumA (l:=[(45,sAdL)]) mixed gl_plain rfl Tryd.func27 comp27 compR27 nt27 (by simp only[List.mem_cons,List.not_mem_nil,or_false,forall_eq];exact okAdL) fun ds ⟨b,now,cs,hd,hb,hn,hp,hcl,hl⟩ hA=>?_
  subst hd
  have hnl:=hn.1
  have q:preAdL [.p (fsS b now),.v (.rcs 1 cs.length cs)]:=⟨_,_,_,rfl,hb,hn,hp,hcl,hl⟩
  have hF:FAdL [.p (fsS b now),.v (.rcs 1 cs.length cs)]=([fsS (b++flat cs) now],.many []):=rfl
  have sb:=qdd b
  have hpr:pursR cs=true:=parts_pur hp
  have hr:∀(hp hk:List Blk) (J:List E→Prop),rdEs hp hk shN (now.map (V.int .u8)) J=J (now.map fun x=>.v (.int .u8 x)):=fun hp hk J=>rdEs_N hnl
  obtain⟨Y,hY⟩:∃Y,b++flat cs=Y:=⟨_,rfl⟩
  rw[hY]at hF
  simp only[fsS]at q hF
  simp only[sAdL,shS1]
  simp only[ir27,rs27,gl,q,hF,fsS,sb,injs_ints,blks_ints,cnts_ints,idsEs_N,↓hr,hpr,sub_zero,qdb,qai,List.length_cons,List.length_nil,Nat.reduceAdd,Nat.le_refl,Nat.reduceLeDiff,Nat.reduceLT,true_and,and_true,↓qar,↓qan,↓qao,↓qap,↓qam,↓qaj,↓qak,↓qaq,↓qal,idsEs,idsE,idss,killB,effE,stA,wBlk,deads,nwA,cntA,cnts,cnt,valO,blkO,inj,injs,blk,blks,outA,outR,outE,outEs,sids,List.nodup_cons,List.nodup_nil,List.not_mem_nil,List.mem_cons,or_false,false_or,not_or,↓evA,evB,evs,evp,mkB,repB,blen,↓retQ,res,resAll,resOne,kill,apartOk,exp,injV,injB,pur,purs,purR,pursR,List.reduceReplicate,Nat.reduceMul,Nat.reduceSub,Nat.reduceEqDiff,Int.reduceToNat,Int.reduceLE,Int.reduceLT,Int.reduceEq,reduceCtorEq,↓reduceIte]
  exact outEs_ints trivial
/-! ### The next secret -/
def ldrv:List Int:=[100,101,114,105,118,101,100]
def nextS (now m:List Int):List Int:=hmac (labkey now ldrv (sumS [])) m
def preNx (ds:List E):Prop:=∃(b now:List Int) (v:V),ds=[.p (fsS b now),.v v]∧Dig 256 b∧b.length≤549755813888∧Sec now∧Part v∧(flat [v]).length≤549755813888
def nowE:List E→List Int:=fun es=>es.map fun | .v (.int _ n)=>n | _=>0
theorem nowE_ints (xs:List Int):nowE (xs.map fun x=>.v (.int .u8 x))=xs:=by simp[nowE,Function.comp_def]
def FNx:List E→List (List E)×EOut
  | [.p (.s _ _ _ b::now),.v v]=>([fsS b (nextS (nowE now) (flat [v]))],.many [])
  | _=>([],.many [])
def sNx:Summ:=sEff [.p shS1,.r] preNx FNx
theorem obj_rsl {b now:List Int} (hb:Dig 256 b) (hbl:b.length≤549755813888) (hn:Sec now):Obj (.rpc (csS (.rsl 1 b.length .u8 b) now) 0) b now :=
  ⟨_,rfl,part_rsl hb,by simp[flat],hbl,hn⟩
set_option maxHeartbeats 1000000 in
theorem okNx {g:List Blk} [Ge gl g]:SumOK Tryd.prog g 23 sNx∧SumAbs sNx:=by
  refine esumA (l:=[(43,sSum0),(42,s42),(39,sEx2)]) mixed gl_plain rfl Tryd.func23 comp23 compR23 nt23 (by simp only[List.mem_cons,List.not_mem_nil,or_false,forall_eq_or_imp,forall_eq];exact⟨okSum0,ok42,okEx2⟩) fun ds ⟨b,now,v,hd,hb,hbl,hn,hv,hvl⟩ hA=>?_
  subst hd
  have hnl:=hn.1
  have sb:=qdd b
  have hF:FNx [.p (fsS b now),.v v]=([fsS b (nextS now (flat [v]))],.many []):=by
    show ([fsS b (nextS (nowE (now.map fun x=>.v (.int .u8 x))) (flat [v]))],EOut.many [])=_
    rw[nowE_ints]
  have hr:∀(hp hk:List Blk) (J:List E→Prop),rdEs hp hk shN (now.map (V.int .u8)) J=J (now.map fun x=>.v (.int .u8 x)):=fun hp hk J=>rdEs_N hnl
  have hob:=obj_rsl hb hbl hn
  have hg:=getO_obj hob
  have hS:=sumS_sec []
  have q0:preNil0 [.v .nils]:=rfl
  have f0:FSum0 [.v .nils]=.one (.v (.ints .u8 (sumS []))):=rfl
  have qd:preDer [.v (.rpc (csS (.rsl 1 b.length .u8 b) now) 0),.v (.str ldrv),.v (.ints .u8 (sumS []))]:=⟨_,b,now,_,_,rfl,hob,lit_dig rfl,hS⟩
  have fd:F42 [.v (.rpc (csS (.rsl 1 b.length .u8 b) now) 0),.v (.str ldrv),.v (.ints .u8 (sumS []))]=.one (.v (.ints .u8 (labkey now ldrv (sumS [])))):=by
    show Out.one (.v (.ints .u8 (labkey (getO (.rpc (csS (.rsl 1 b.length .u8 b) now) 0)).2 ldrv (sumS []))))=_
    rw[hg]
  have hK:=labkey_sec now ldrv (sumS [])
  have hfs:nextS now (flat [v])=hmac (labkey now ldrv (sumS [])) (flat [v]):=rfl
  rw[hfs]at hF
  obtain⟨s,hs⟩:∃s,sumS []=s:=⟨_,rfl⟩
  rw[hs]at hS qd fd hK hF f0
  obtain⟨k,hk⟩:∃k,labkey now ldrv s=k:=⟨_,rfl⟩
  rw[hk]at fd hK hF
  have qx:preEx2 [.s .u8 k,.v v]:=⟨_,_,rfl,hK.2,by rw[hK.1];decide,hv,hvl⟩
  have fx:FEx2 [.s .u8 k,.v v]=.one (.v (.ints .u8 (hmac k (flat [v])))):=rfl
  have hH:=hmac_len k (flat [v])
  obtain⟨h,hh⟩:∃h,hmac k (flat [v])=h:=⟨_,rfl⟩
  rw[hh]at fx hF hH
  have kl:=hK.1
  have sl:=hS.1
  have sk:sub k 0 32=k:=sub_zero kl
  have ss:sub s 0 32=s:=sub_zero sl
  have pk:spl [0,0,0,0,0,0,0,0,0,0,0,0,0,0,0,0,0,0,0,0,0,0,0,0,0,0,0,0,0,0,0,0] 0 k=k:=qdb (by simp[kl])
  have fin':spl (V.slice 5 0 1 b.length b.length::now.map (V.int .u8)) 1 (h.map (V.int .u8))=V.slice 5 0 1 b.length b.length::h.map (V.int .u8):=by simp[spl,hH,hnl]
  simp only[fsS]at hF
  simp only[csS,ldrv]at qd fd
  simp only[sEx2,sSum0,shS1,s42]
  rcases hv with rfl | ⟨xs,rfl,hxd⟩
  all_goals
    simp only[ir23,rs23,gl,hF,fsS,sb,injs_ints,blks_ints,cnts_ints,idsEs_N,↓hr,↓frzs_ints,q0,f0,qd,fd,qx,fx,hH,kl,sl,sk,ss,pk,fin',hs,List.length_map,sub_zero,qdb,qai,List.length_cons,List.length_nil,Nat.reduceAdd,Nat.le_refl,Nat.reduceLeDiff,Nat.reduceLT,true_and,and_true,↓qar,↓qan,↓qao,↓qap,↓qam,↓qaj,↓qak,↓qaq,↓qal,idsEs,idsE,idss,killB,effE,stA,wBlk,deads,nwA,cntA,cnts,cnt,valO,blkO,inj,injs,blk,blks,outA,outR,outE,outEs,sids,List.nodup_cons,List.nodup_nil,List.not_mem_nil,List.mem_cons,or_false,false_or,not_or,↓evA,evB,evs,evp,mkB,repB,blen,↓retQ,res,resAll,resOne,kill,apartOk,exp,injV,injB,pur,purs,purR,pursR,List.reduceReplicate,Nat.reduceMul,Nat.reduceSub,Nat.reduceEqDiff,Int.reduceToNat,Int.reduceLE,Int.reduceLT,Int.reduceEq,reduceCtorEq,↓reduceIte]
    exact⟨by omega,by omega,outEs_ints trivial⟩
/-! ### Another key beforehand -/
def preAg (ds:List E):Prop:=∃(b now:List Int) (v:V),ds=[.p (fsS b now),.v v]∧Dig 256 b∧b.length≤549755813888∧Sec now∧Part v∧(flat [v]).length≤549755813888
def FAg:List E→List (List E)×EOut
  | [.p (.s _ _ _ b::now),.v v]=>([.x::now],.one (.p (fsS b (hmac zz (pskOf (flat [v]))))))
  | _=>([],.many [])
def sAg:Summ:=sEff [.p shS1,.r] preAg FAg
set_option maxHeartbeats 1000000 in
theorem okAg {g:List Blk} [Ge gl g]:SumOK Tryd.prog g 26 sAg∧SumAbs sAg:=by
  refine esumA (l:=[(21,sNew2)]) mixed gl_plain rfl Tryd.func26 comp26 compR26 nt26 (by simp only[List.mem_cons,List.not_mem_nil,or_false,forall_eq];exact okNew2) fun ds ⟨b,now,v,hd,hb,hbl,hn,hv,hvl⟩ hA=>?_
  subst hd
  have hnl:=hn.1
  have sb:=qdd b
  have hF:FAg [.p (fsS b now),.v v]=([.x::now.map (fun x=>.v (.int .u8 x))],.one (.p (fsS b (hmac zz (pskOf (flat [v])))))):=rfl
  have qn:preNew2 [.v v]:=⟨v,rfl,hv,hvl⟩
  have fn:F21 [.v v]=([],.one (.p (fsS [] (hmac zz (pskOf (flat [v])))))):=rfl
  have hH:=hmac_len zz (pskOf (flat [v]))
  obtain⟨h,hh⟩:∃h,hmac zz (pskOf (flat [v]))=h:=⟨_,rfl⟩
  rw[hh]at hF fn hH
  have fin':spl (V.slice 7 0 1 0 0::h.map (V.int .u8)) 0 [V.slice 5 0 1 b.length b.length]=V.slice 5 0 1 b.length b.length::h.map (V.int .u8):=by simp[spl]
  have s1:sub (V.slice 5 0 1 b.length b.length::now.map (V.int .u8)) 0 1=[V.slice 5 0 1 b.length b.length]:=by simp[sub]
  have ha:agI [V.slice 5 0 1 b.length b.length]=.agg [V.slice 5 0 1 b.length b.length]:=rfl
  simp only[fsS]at hF fn
  simp only[sNew2,shS1]
  rcases hv with rfl | ⟨xs,rfl,hxd⟩
  all_goals
    simp only[ir26,rs26,gl,hF,fsS,sb,injs_ints,blks_ints,cnts_ints,qn,fn,hH,fin',s1,ha,List.length_map,sub_zero,qdb,qai,List.length_cons,List.length_nil,Nat.reduceAdd,Nat.le_refl,Nat.reduceLeDiff,Nat.reduceLT,true_and,and_true,↓qar,↓qan,↓qao,↓qap,↓qam,↓qaj,↓qak,↓qaq,↓qal,idsEs,idsE,idss,killB,effE,stA,wBlk,deads,nwA,cntA,cnts,cnt,valO,blkO,inj,injs,blk,blks,outA,outR,outE,outEs,sids,List.nodup_cons,List.nodup_nil,List.not_mem_nil,List.mem_cons,or_false,false_or,not_or,↓evA,evB,evs,evp,mkB,repB,blen,↓retQ,res,resAll,resOne,kill,apartOk,exp,injV,injB,pur,purs,purR,pursR,List.reduceReplicate,Nat.reduceMul,Nat.reduceSub,Nat.reduceEqDiff,Int.reduceToNat,Int.reduceLE,Int.reduceLT,Int.reduceEq,reduceCtorEq,↓reduceIte]
    exact outEs_ints ⟨by decide,by decide,outEs_ints trivial⟩
end Am
set_option maxRecDepth 20000
namespace Am
open Go.Proofs
/-! ### What is asked of a schedule -/
def sSmN:Summ:=sData [.r,.r] preLog0 F46
theorem csS_pur {v:V} {b now:List Int} (h:Obj v b now):purR v=true:=by
  obtain⟨c,rfl,hc,-⟩:=h
  have:∀xs:List Int,pursR (xs.map (V.int .u8))=true:=fun xs=>by
    induction xs with
    | nil=>rfl
    | cons x xs ih=>simpa[pursR,purR]using ih
  rcases hc with rfl | ⟨xs,rfl,-⟩<;>simp[purR,pursR,csS,this]
theorem okSmN {g:List Blk} [Ge gl g]:SumOK Tryd.prog g 29 sSmN∧SumAbs sSmN:=by
  refine fsumA (l:=[(46,s46)]) mixed gl_plain rfl Tryd.func29 comp29 compR29 nt29 (by simp only[List.mem_cons,List.not_mem_nil,or_false,forall_eq];exact ok46) fun ds ⟨v,b,now,hd,ho⟩ hA=>?_
  subst hd
  have hg:=getO_obj ho
  have hp:=csS_pur ho
  have q:preLog0 [.v v,.v .nils]:=⟨v,b,now,rfl,ho⟩
  have hF:F46 [.v v,.v .nils]=.one (.v (.ints .u8 (sumS b))):=by
    show Out.one (.v (.ints .u8 (sumS (getO v).1)))=_
    rw[hg]
  have sl:(sumS b).length=32:=sum256_len _
  obtain⟨S,hS⟩:∃S,sumS b=S:=⟨_,rfl⟩
  rw[hS]at hF sl
  have ps:spl [0,0,0,0,0,0,0,0,0,0,0,0,0,0,0,0,0,0,0,0,0,0,0,0,0,0,0,0,0,0,0,0] 0 S=S:=qdb (by simp[sl])
  have ss:sub S 0 32=S:=sub_zero sl
  obtain⟨c,rfl,-⟩:=ho
  obtain⟨cs,hcs⟩:∃cs,csS c now=cs:=⟨_,rfl⟩
  rw[hcs]at q hF hp
  simp only[purR]at hp
  simp only[hcs,s46]
  simp only[ir29,rs29,gl,hF,q,hp,sl,ps,ss,sub_zero,qdb,qai,List.length_cons,List.length_nil,Nat.reduceAdd,Nat.le_refl,Nat.reduceLeDiff,Nat.reduceLT,true_and,and_true,↓evA,evB,evs,evp,mkB,repB,blen,↓retQ,res,resAll,resOne,kill,apartOk,exp,injV,injB,pur,purs,purR,pursR,List.reduceReplicate,Nat.reduceMul,Nat.reduceSub,Nat.reduceEqDiff,Int.reduceToNat,Int.reduceLE,Int.reduceLT,Int.reduceEq,reduceCtorEq,↓reduceIte]
  repeat(refine And.intro (by omega) ?_)
  simp only[out,outs,out1,pur,and_self]
def sSm1:Summ:=sData [.r,.r] preLog1 FLog1
theorem okSm1 {g:List Blk} [Ge gl g]:SumOK Tryd.prog g 29 sSm1∧SumAbs sSm1:=by
  refine fsumA (l:=[(46,sLog1)]) mixed gl_plain rfl Tryd.func29 comp29 compR29 nt29 (by simp only[List.mem_cons,List.not_mem_nil,or_false,forall_eq];exact okLog1) fun ds ⟨v,p,b,now,hd,ho,hpp,hpl⟩ hA=>?_
  subst hd
  have hg:=getO_obj ho
  have hp:=csS_pur ho
  have q:preLog1 [.v v,.v (.rcs 1 1 [p])]:=⟨v,p,b,now,rfl,ho,hpp,hpl⟩
  have hF:FLog1 [.v v,.v (.rcs 1 1 [p])]=.one (.v (.ints .u8 (sumS (b++flat [p])))):=by
    show Out.one (.v (.ints .u8 (sumS ((getO v).1++flat [p]))))=_
    rw[hg]
  have sl:(sumS (b++flat [p])).length=32:=sum256_len _
  have hpr:pursR [p]=true:=parts_pur (parts_cons hpp parts_nil)
  obtain⟨S,hS⟩:∃S,sumS (b++flat [p])=S:=⟨_,rfl⟩
  rw[hS]at hF sl
  have ps:spl [0,0,0,0,0,0,0,0,0,0,0,0,0,0,0,0,0,0,0,0,0,0,0,0,0,0,0,0,0,0,0,0] 0 S=S:=qdb (by simp[sl])
  have ss:sub S 0 32=S:=sub_zero sl
  obtain⟨c,rfl,-⟩:=ho
  obtain⟨cs,hcs⟩:∃cs,csS c now=cs:=⟨_,rfl⟩
  rw[hcs]at q hF hp
  simp only[purR]at hp
  obtain⟨ps',hps⟩:∃l,[p]=l:=⟨_,rfl⟩
  rw[hps]at q hF hpr ⊢
  simp only[hcs,sLog1]
  simp only[ir29,rs29,gl,hF,q,hp,hpr,sl,ps,ss,sub_zero,qdb,qai,List.length_cons,List.length_nil,Nat.reduceAdd,Nat.le_refl,Nat.reduceLeDiff,Nat.reduceLT,true_and,and_true,↓evA,evB,evs,evp,mkB,repB,blen,↓retQ,res,resAll,resOne,kill,apartOk,exp,injV,injB,pur,purs,purR,pursR,List.reduceReplicate,Nat.reduceMul,Nat.reduceSub,Nat.reduceEqDiff,Int.reduceToNat,Int.reduceLE,Int.reduceLT,Int.reduceEq,reduceCtorEq,↓reduceIte]
  repeat(refine And.intro (by omega) ?_)
  simp only[out,outs,out1,pur,and_self]
theorem sData_or {P:Go.Program} {g:List Blk} {f:Go.FuncId} {shs:List Sh} {p1 p2:List D→Prop} {F1 F2 G:List D→Out} (e1:∀ds,p1 ds→F1 ds=G ds) (e2:∀ds,p2 ds→F2 ds=G ds)
    (h1:SumOK P g f (sData shs p1 F1)) (h2:SumOK P g f (sData shs p2 F2)):SumOK P g f (sData shs (fun ds=>p1 ds∨p2 ds) G):=by
  intro Own σ hp w vs cvs K hs hG hvs h hfr
  obtain⟨ds,⟨hp12,hk⟩,hd⟩:=rds_det h
  rcases hp12 with hp1 | hp2
  · exact h1 Own σ hp w vs cvs K hs hG hvs (hd _ ⟨hp1,by rw[e1 ds hp1];exact hk⟩) hfr
  · exact h2 Own σ hp w vs cvs K hs hG hvs (hd _ ⟨hp2,by rw[e2 ds hp2];exact hk⟩) hfr
def preS01 (ds:List D):Prop:=preNil0 ds∨preParts ds
def FS01:List D→Out
  | [.v .nils]=>FSum0 []
  | [.v (.rcs _ _ vs)]=>.one (.v (.ints .u8 (sum256 (padded (flat vs) 64))))
  | _=>bad
def sSum01:Summ:=sData [.r] preS01 FS01
theorem okSum01 {g:List Blk} [Ge gl g]:SumOK Tryd.prog g 43 sSum01∧SumAbs sSum01 :=
  ⟨sData_or (fun ds h=>by rw[show ds=_ from h];rfl) (fun ds h=>by obtain⟨vs,rfl,-⟩:=h;rfl) okSum0.1 ok43.1,sData_abs _ _ _⟩
def lbnd:List Int:=[101,120,116,32,98,105,110,100,101,114]
def bindS (now m:List Int):List Int:=finS (labkey now lbnd (sumS [])) (sumS m)
def preBnd (ds:List D):Prop:=∃(v p:V) (b now:List Int),ds=[.v v,.v p]∧Obj v b now∧Part p∧(flat [p]).length≤549755813888
def FBnd:List D→Out
  | [.v v,.v p]=>.one (.v (.ints .u8 (bindS (getO v).2 (flat [p]))))
  | _=>bad
def sBnd:Summ:=sData [.r,.r] preBnd FBnd
set_option maxHeartbeats 1000000 in
theorem okBnd {g:List Blk} [Ge gl g]:SumOK Tryd.prog g 30 sBnd∧SumAbs sBnd:=by
  refine fsumA (l:=[(43,sSum01),(42,s42),(19,s19)]) mixed gl_plain rfl Tryd.func30 comp30 compR30 nt30 (by simp only[List.mem_cons,List.not_mem_nil,or_false,forall_eq_or_imp,forall_eq];exact⟨okSum01,ok42,ok19⟩) fun ds ⟨v,p,b,now,hd,ho,hpp,hpl⟩ hA=>?_
  subst hd
  have hg:=getO_obj ho
  have hp:=csS_pur ho
  have hpr:pursR [p]=true:=parts_pur (parts_cons hpp parts_nil)
  have q0:preS01 [.v .nils]:=.inl rfl
  have f0:FS01 [.v .nils]=.one (.v (.ints .u8 (sumS []))):=rfl
  have q1:preS01 [.v (.rcs 1 1 [p])]:=.inr ⟨[p],rfl,parts_cons hpp parts_nil,by omega,by simp⟩
  have f1:FS01 [.v (.rcs 1 1 [p])]=.one (.v (.ints .u8 (sumS (flat [p])))):=rfl
  have hS:=sumS_sec []
  have hM:=sumS_sec (flat [p])
  have hF:FBnd [.v v,.v p]=.one (.v (.ints .u8 (finS (labkey now lbnd (sumS [])) (sumS (flat [p]))))):=by
    show Out.one (.v (.ints .u8 (bindS (getO v).2 (flat [p]))))=_
    rw[hg];rfl
  have qd:preDer [.v v,.v (.str lbnd),.v (.ints .u8 (sumS []))]:=⟨_,b,now,_,_,rfl,ho,lit_dig rfl,hS⟩
  have fd:F42 [.v v,.v (.str lbnd),.v (.ints .u8 (sumS []))]=.one (.v (.ints .u8 (labkey now lbnd (sumS [])))):=by
    show Out.one (.v (.ints .u8 (labkey (getO v).2 lbnd (sumS []))))=_
    rw[hg]
  have hK:=labkey_sec now lbnd (sumS [])
  obtain⟨s,hs⟩:∃s,sumS []=s:=⟨_,rfl⟩
  rw[hs]at hS f0 qd fd hK hF
  obtain⟨m,hm⟩:∃m,sumS (flat [p])=m:=⟨_,rfl⟩
  rw[hm]at hM f1 hF
  obtain⟨k,hk⟩:∃k,labkey now lbnd s=k:=⟨_,rfl⟩
  rw[hk]at fd hK hF
  have qf:preSS [.v (.ints .u8 k),.v (.ints .u8 m)]:=⟨_,_,rfl,hK,hM⟩
  have ff:F19 [.v (.ints .u8 k),.v (.ints .u8 m)]=.one (.v (.ints .u8 (finS k m))):=rfl
  have rl:(finS k m).length=32:=hmac_len _ _
  obtain⟨R,hR⟩:∃R,finS k m=R:=⟨_,rfl⟩
  rw[hR]at ff hF rl
  have pR:spl [0,0,0,0,0,0,0,0,0,0,0,0,0,0,0,0,0,0,0,0,0,0,0,0,0,0,0,0,0,0,0,0] 0 R=R:=qdb (by simp[rl])
  have sR:sub R 0 32=R:=sub_zero rl
  have kl:=hK.1
  have sl:=hS.1
  have ml:=hM.1
  have sk:sub k 0 32=k:=sub_zero kl
  have ss:sub s 0 32=s:=sub_zero sl
  have sm:sub m 0 32=m:=sub_zero ml
  obtain⟨c,rfl,-⟩:=ho
  obtain⟨cs,hcs⟩:∃cs,csS c now=cs:=⟨_,rfl⟩
  rw[hcs]at qd fd hF hp
  simp only[purR]at hp
  simp only[lbnd]at qd fd
  simp only[hcs,sSum01,s42,s19]
  rcases hpp with rfl | ⟨xs,rfl,hxd⟩
  all_goals
    simp only[ir30,rs30,gl,hF,hp,hpr,q0,f0,q1,f1,qd,fd,qf,ff,rl,pR,sR,kl,sl,ml,sk,ss,sm,sub_zero,qdb,qai,List.length_cons,List.length_nil,Nat.reduceAdd,Nat.le_refl,Nat.reduceLeDiff,Nat.reduceLT,true_and,and_true,↓evA,evB,evs,evp,mkB,repB,blen,↓retQ,res,resAll,resOne,kill,apartOk,exp,injV,injB,pur,purs,purR,pursR,List.reduceReplicate,Nat.reduceMul,Nat.reduceSub,Nat.reduceEqDiff,Int.reduceToNat,Int.reduceLE,Int.reduceLT,Int.reduceEq,reduceCtorEq,↓reduceIte]
    repeat(refine And.intro (by omega) ?_)
    simp only[out,outs,out1,pur,and_self]
def FNzz (_:List D):Out:=.many [.v (.ints .u8 zz),.v (.ints .u8 zz)]
def preNT (ds:List D):Prop:=∃l:List Int,ds=[.v .nilp,.v (.str l)]
def sNTr:Summ:=sData [.r,.v] preNT FNzz
theorem okNTr {g:List Blk} [Ge gl g]:SumOK Tryd.prog g 28 sNTr∧SumAbs sNTr:=by
  refine fsumA (l:=[]) mixed gl_plain rfl Tryd.func28 comp28 compR28 nt28 (by simp) fun ds ⟨l,hd⟩ hA=>?_
  subst hd
  have sz:sub [0,0,0,0,0,0,0,0,0,0,0,0,0,0,0,0,0,0,0,0,0,0,0,0,0,0,0,0,0,0,0,0] 0 32=[0,0,0,0,0,0,0,0,0,0,0,0,0,0,0,0,0,0,0,0,0,0,0,0,0,0,0,0,0,0,0,0]:=rfl
  have pz:spl [0,0,0,0,0,0,0,0,0,0,0,0,0,0,0,0,0,0,0,0,0,0,0,0,0,0,0,0,0,0,0,0] 0 [0,0,0,0,0,0,0,0,0,0,0,0,0,0,0,0,0,0,0,0,0,0,0,0,0,0,0,0,0,0,0,0]=[0,0,0,0,0,0,0,0,0,0,0,0,0,0,0,0,0,0,0,0,0,0,0,0,0,0,0,0,0,0,0,0]:=rfl
  simp only[ir28,rs28,gl,FNzz,zz,sz,pz,sub_zero,qdb,qai,List.length_cons,List.length_nil,Nat.reduceAdd,Nat.le_refl,Nat.reduceLeDiff,Nat.reduceLT,true_and,and_true,↓evA,evB,evs,evp,mkB,repB,blen,↓retQ,res,resAll,resOne,kill,apartOk,exp,injV,injB,pur,purs,purR,pursR,List.reduceReplicate,Nat.reduceMul,Nat.reduceSub,Nat.reduceEqDiff,Int.reduceToNat,Int.reduceLE,Int.reduceLT,Int.reduceEq,reduceCtorEq,↓reduceIte]
  repeat(refine And.intro (by omega) ?_)
  simp only[out,outs,out1,pur,and_self]
end Am
set_option maxRecDepth 20000
namespace Am
open Go.Proofs
/-! ### SecretsNil -/
def preTr01 (ds:List D):Prop:=preNT ds∨preTrf ds
def FTr01:List D→Out
  | [.v .nilp,_]=>FNzz []
  | ds=>F28 ds
def sTr01:Summ:=sData [.r,.v] preTr01 FTr01
theorem okTr01 {g:List Blk} [Ge gl g]:SumOK Tryd.prog g 28 sTr01∧SumAbs sTr01 :=
  ⟨sData_or (fun ds h=>by obtain⟨l,rfl⟩:=h;rfl) (fun ds h=>by
    obtain⟨v,b,now,l,rfl,ho,-⟩:=h
    obtain⟨c,rfl,-⟩:=ho
    rfl) okNTr.1 ok28.1,sData_abs _ _ _⟩
def preSm01 (ds:List D):Prop:=preLog0 ds∨preLog1 ds
def FSm01:List D→Out
  | [v,.v .nils]=>F46 [v,.v .nils]
  | ds=>FLog1 ds
def sSm01:Summ:=sData [.r,.r] preSm01 FSm01
theorem okSm01 {g:List Blk} [Ge gl g]:SumOK Tryd.prog g 29 sSm01∧SumAbs sSm01 :=
  ⟨sData_or (fun ds h=>by obtain⟨v,b,now,rfl,-⟩:=h;rfl) (fun ds h=>by obtain⟨v,p,b,now,rfl,-⟩:=h;rfl) okSmN.1 okSm1.1,sData_abs _ _ _⟩
end Am
