/-
Working texts: contracts of functions, and the numbers behind them.
-/
import Derived.Test.YtcefobjfkmfmiaaDoorGkA
import Derived.Test.YtcefobjfkmfmiaaDoorIrF
import Derived.Test.YtcefobjfkmfmiaaDoorAmLoop
set_option linter.unusedSimpArgs false
set_option linter.unusedVariables false
set_option linter.unusedSectionVars false
set_option maxRecDepth 20000
namespace Am
open Go.Proofs
/-! ### A schedule: the messages so far and the secret -/
def fsS (b now:List Int):List E:=.s 1 b.length .u8 b::now.map (fun x=>.v (.int .u8 x))
def csS (c:V) (now:List Int):List V:=c::now.map (V.int .u8)
theorem injs_ints {k:Go.IntKind}:∀{xs:List Int} {n:Nat},injs (xs.map fun x=>E.v (.int k x)) n=xs.map (V.int k)
  | [],_=>rfl
  | x::xs,n=>by simp only[List.map_cons,injs,inj,cnt,Nat.add_zero,injs_ints (xs:=xs)]
theorem blks_ints {k:Go.IntKind}:∀{xs:List Int} {n:Nat},blks (xs.map fun x=>E.v (.int k x)) n=[]
  | [],_=>rfl
  | x::xs,n=>by simp only[List.map_cons,blks,blk,cnt,Nat.add_zero,List.nil_append,blks_ints (xs:=xs)]
theorem cnts_ints {k:Go.IntKind}:∀{xs:List Int},cnts (xs.map fun x=>E.v (.int k x))=0
  | []=>rfl
  | x::xs=>by simp only[List.map_cons,cnts,cnt,Nat.zero_add,cnts_ints (xs:=xs)]
theorem outEs_ints {hp:List Blk} {k:Go.IntKind} {used:List Nat} {K:List Nat→Prop}:∀{xs:List Int},K used→outEs hp (xs.map fun x=>E.v (.int k x)) (xs.map (V.int k)) used K
  | [],h=>by simpa[outEs]using h
  | x::xs,h=>by
    simp only[List.map_cons,outEs,outE]
    exact⟨by simp[pur],outEs_ints h⟩
theorem frzs_ints {hp:List Blk} {d:Nat} {k:Go.IntKind}:∀{xs:List Int} {J:List V→Prop},frzs (frz hp (d+1)) (xs.map (V.int k)) J=J (xs.map (V.int k))
  | [],J=>by rw[List.map_nil,frzs]
  | x::xs,J=>by rw[List.map_cons,frzs,qbp,frzs_ints (xs:=xs)]
def zz:List Int:=List.replicate 32 0
def pskOf (b:List Int):List Int:=if b.length=0 then zz else b
def preNew (ds:List E):Prop:=ds=[.v .nils]
def F21:List E→List (List E)×EOut
  | [.v v]=>([],.one (.p (fsS [] (hmac zz (pskOf (flat [v]))))))
  | _=>([],.one (.v .nilp))
def s21:Summ:=sEff [.r] preNew F21
theorem zz_dig:Dig 256 zz:=fun x hx=>by rw[(List.mem_replicate.1 hx).2];decide
theorem ok21 {g:List Blk} [Ge gl g]:SumOK Tryd.prog g 21 s21∧SumAbs s21:=by
  refine esumA (l:=[(39,s39)]) mixed gl_plain rfl Tryd.func21 comp21 compR21 nt21 (by simp only[List.mem_cons,List.not_mem_nil,or_false,forall_eq];exact ok39) fun ds hd hA=>?_
  rw[hd]
  have sz:sub zz 0 32=zz:=rfl
  have hF:F21 [.v .nils]=([],.one (.p (fsS [] (hmac zz zz)))):=rfl
  have q:pre39 [.s .u8 zz,.s .u8 zz]:=⟨_,_,rfl,zz_dig,by decide,zz_dig,by decide⟩
  have hm:=hmac_len zz zz
  obtain⟨h,hh⟩:∃h,hmac zz zz=h:=⟨_,rfl⟩
  rw[hh]at hm hF
  have fin':spl (V.nils::List.replicate 32 (V.int .u8 0)) 1 (h.map (V.int .u8))=.nils::h.map (V.int .u8):=by simp[spl,hm]
  simp only[zz,List.reduceReplicate]at q hh sz fin'
  simp only[s39]
  simp only[ir21,rs21,gl,hF,sz,q,hh,hm,fin',s39,F39,List.length_map,sub_zero,qdb,qai,List.length_cons,List.length_nil,Nat.reduceAdd,Nat.le_refl,Nat.reduceLeDiff,Nat.reduceLT,true_and,and_true,↓qar,↓qan,↓qao,↓qap,↓qam,↓qaj,↓qak,↓qaq,↓qal,idsEs,idsE,idss,killB,effE,stA,wBlk,deads,nwA,cntA,cnts,cnt,valO,blkO,inj,injs,blk,blks,outA,outR,outE,outEs,sids,List.nodup_cons,List.nodup_nil,List.not_mem_nil,List.mem_cons,or_false,false_or,not_or,↓evA,evB,evs,evp,mkB,repB,blen,↓retQ,res,resAll,resOne,kill,apartOk,exp,injV,injB,pur,purs,purR,pursR,List.reduceReplicate,Nat.reduceMul,Nat.reduceSub,Nat.reduceEqDiff,Int.reduceToNat,Int.reduceLE,Int.reduceLT,Int.reduceEq,reduceCtorEq,↓reduceIte]
  refine⟨by decide,by decide,?_⟩
  show outEs _ (.s 1 0 .u8 []::h.map (fun x=>.v (.int .u8 x))) (.nils::h.map (V.int .u8)) _ _
  rw[outEs,outE]
  exact⟨⟨rfl,rfl⟩,outEs_ints trivial⟩
/-! ### What is asked of one -/
def Obj (v:V) (b now:List Int):Prop:=∃c:V,v=.rpc (csS c now) 0∧Part c∧flat [c]=b∧b.length≤549755813888∧Sec now
def sumS (b:List Int):List Int:=sum256 (padded b 64)
def getO:V→List Int×List Int
  | .rpc (c::r) _=>(flat [c],r.map fun | .int _ n=>n | _=>0)
  | _=>default
theorem getO_obj {v:V} {b now:List Int} (h:Obj v b now):getO v=(b,now):=by
  obtain⟨c,rfl,-,hf,-⟩:=h
  simp[getO,csS,hf,Function.comp_def]
def preLog0 (ds:List D):Prop:=∃(v:V) (b now:List Int),ds=[.v v,.v .nils]∧Obj v b now
def F46:List D→Out
  | [.v v,_]=>.one (.v (.ints .u8 (sumS (getO v).1)))
  | _=>bad
def s46:Summ:=sData [.r,.v] preLog0 F46
theorem ok46 {g:List Blk} [Ge gl g]:SumOK Tryd.prog g 46 s46∧SumAbs s46:=by
  refine fsumA (l:=[(43,s43)]) mixed gl_plain rfl Tryd.func46 comp46 compR46 nt46 (by simp only[List.mem_cons,List.not_mem_nil,or_false,forall_eq];exact ok43) fun ds ⟨v,b,now,hd,ho⟩ hA=>?_
  subst hd
  have hg:=getO_obj ho
  obtain⟨c,rfl,hc,hf,hbl,hn⟩:=ho
  have hF:F46 [.v (.rpc (csS c now) 0),.v .nils]=.one (.v (.ints .u8 (sumS b))):=by
    show Out.one (.v (.ints .u8 (sumS (getO (.rpc (csS c now) 0)).1)))=_
    rw[hg]
  have q:preParts [.v (.rcs 1 1 [c])]:=⟨[c],rfl,parts_cons hc parts_nil,by rw[hf];omega,by simp⟩
  have hs:sum256 (padded (flat [c]) 64)=sumS b:=by rw[hf];rfl
  have sl:(sumS b).length=32:=sum256_len _
  have ps:spl [0,0,0,0,0,0,0,0,0,0,0,0,0,0,0,0,0,0,0,0,0,0,0,0,0,0,0,0,0,0,0,0] 0 (sumS b)=sumS b:=qdb (by simp[sl])
  have ss:sub (sumS b) 0 32=sumS b:=sub_zero sl
  simp only[csS]at hF
  simp only[s43]
  rcases hc with rfl | ⟨xs,rfl,hx⟩
  all_goals
    simp only[ir46,rs46,gl,hF,csS,q,hs,sl,ps,ss,s43,F43,sub_zero,qdb,qai,List.length_cons,List.length_nil,Nat.reduceAdd,Nat.le_refl,Nat.reduceLeDiff,Nat.reduceLT,true_and,and_true,↓evA,evB,evs,evp,mkB,repB,blen,↓retQ,res,resAll,resOne,kill,apartOk,exp,injV,injB,pur,purs,purR,pursR,List.reduceReplicate,Nat.reduceMul,Nat.reduceSub,Nat.reduceEqDiff,Int.reduceToNat,Int.reduceLE,Int.reduceLT,Int.reduceEq,reduceCtorEq,↓reduceIte]
    repeat(refine And.intro (by omega) ?_)
    simp only[out,outs,out1,pur,and_self]
def preDer (ds:List D):Prop:=∃(v:V) (b now l s:List Int),ds=[.v v,.v (.str l),.v (.ints .u8 s)]∧Obj v b now∧Dig 256 l∧Sec s
def F42:List D→Out
  | [.v v,.v (.str l),.v (.ints _ s)]=>.one (.v (.ints .u8 (labkey (getO v).2 l s)))
  | _=>bad
def s42:Summ:=sData [.r,.v,.v] preDer F42
theorem labkey_sec (s l c:List Int):Sec (labkey s l c):=by
  unfold labkey;split
  · exact⟨by simp,fun x hx=>by rw[(List.mem_replicate.1 hx).2];decide⟩
  · exact⟨expand_len _ _ _,expand_dig _ _ _⟩
theorem ok42 {g:List Blk} [Ge gl g]:SumOK Tryd.prog g 42 s42∧SumAbs s42:=by
  refine fsumA (l:=[(40,s40)]) mixed gl_plain rfl Tryd.func42 comp42 compR42 nt42 (by simp only[List.mem_cons,List.not_mem_nil,or_false,forall_eq];exact ok40) fun ds ⟨v,b,now,l,s,hd,ho,hl,hs⟩ hA=>?_
  subst hd
  have hg:=getO_obj ho
  obtain⟨c,rfl,hc,hf,hbl,hn⟩:=ho
  have hnl:=hn.1
  have hsl:=hs.1
  have hF:F42 [.v (.rpc (csS c now) 0),.v (.str l),.v (.ints .u8 s)]=.one (.v (.ints .u8 (labkey now l s))):=by
    show Out.one (.v (.ints .u8 (labkey (getO (.rpc (csS c now) 0)).2 l s)))=_
    rw[hg]
  have q:pre40 [.v (.ints .u8 now),.v (.str l),.s .u8 s]:=⟨_,_,_,rfl,hn.2,hnl,hl,hs.2⟩
  have e1:sub (c::now.map (V.int .u8)) 1 32=now.map (V.int .u8):=by
    show (now.map (V.int .u8)).take 32=_
    exact List.take_of_length_le (by simp[hnl])
  have e2:agI (now.map (V.int .u8))=.ints .u8 now:=agI_ints (fun h=>by rw[h]at hnl;cases hnl)
  have ss:sub s 0 32=s:=sub_zero hsl
  obtain⟨k,hk⟩:∃k,labkey now l s=k:=⟨_,rfl⟩
  have kl:k.length=32:=by rw[←hk];exact(labkey_sec _ _ _).1
  have pk:spl [0,0,0,0,0,0,0,0,0,0,0,0,0,0,0,0,0,0,0,0,0,0,0,0,0,0,0,0,0,0,0,0] 0 k=k:=qdb (by simp[kl])
  have sk:sub k 0 32=k:=sub_zero kl
  simp only[csS]at hF
  rw[hk]at hF
  simp only[s40]
  simp only[ir42,rs42,gl,hF,csS,q,e1,e2,hnl,hsl,ss,hk,kl,pk,sk,List.length_map,s40,F40,sub_zero,qdb,qai,List.length_cons,List.length_nil,Nat.reduceAdd,Nat.le_refl,Nat.reduceLeDiff,Nat.reduceLT,true_and,and_true,↓evA,evB,evs,evp,mkB,repB,blen,↓retQ,res,resAll,resOne,kill,apartOk,exp,injV,injB,pur,purs,purR,pursR,List.reduceReplicate,Nat.reduceMul,Nat.reduceSub,Nat.reduceEqDiff,Int.reduceToNat,Int.reduceLE,Int.reduceLT,Int.reduceEq,reduceCtorEq,↓reduceIte]
  repeat(refine And.intro (by omega) ?_)
  simp only[out,outs,out1,pur,and_self]
def trfC (l:List Int):List Int:=99::32::(l++[32,116,114,97,102,102,105,99])
def trfS (l:List Int):List Int:=115::32::(l++[32,116,114,97,102,102,105,99])
def preTrf (ds:List D):Prop:=∃(v:V) (b now l:List Int),ds=[.v v,.v (.str l)]∧Obj v b now∧Dig 256 l∧l.length≤1000000
def F28:List D→Out
  | [.v v,.v (.str l)]=>.many [.v (.ints .u8 (labkey (getO v).2 (trfC l) (sumS (getO v).1))),.v (.ints .u8 (labkey (getO v).2 (trfS l) (sumS (getO v).1)))]
  | _=>bad
def s28:Summ:=sData [.r,.v] preTrf F28
theorem sumS_sec (b:List Int):Sec (sumS b):=⟨sum256_len _,sum256_dig _⟩
theorem trf_dig {l:List Int} (h:Dig 256 l):Dig 256 (trfC l)∧Dig 256 (trfS l):=by
  have h2:Dig 256 (l++[32,116,114,97,102,102,105,99]):=Dig.append h (lit_dig rfl)
  refine⟨fun x hx=>?_,fun x hx=>?_⟩ <;>
    (simp only[trfC,trfS,List.mem_cons]at hx
     rcases hx with rfl | rfl | hx
     · decide
     · decide
     · exact h2 x hx)
theorem ok28 {g:List Blk} [Ge gl g]:SumOK Tryd.prog g 28 s28∧SumAbs s28:=by
  refine fsumA (l:=[(46,s46),(42,s42)]) mixed gl_plain rfl Tryd.func28 comp28 compR28 nt28 (by simp only[List.mem_cons,List.not_mem_nil,or_false,forall_eq_or_imp,forall_eq];exact⟨ok46,ok42⟩) fun ds ⟨v,b,now,l,hd,ho,hl,hll⟩ hA=>?_
  subst hd
  have ho':=ho
  have hg:=getO_obj ho
  obtain⟨c,rfl,hc,hf,hbl,hn⟩:=ho
  have hsec:=sumS_sec b
  obtain⟨s,hs⟩:∃s,sumS b=s:=⟨_,rfl⟩
  rw[hs]at hsec
  have sl:=hsec.1
  have ps:spl [0,0,0,0,0,0,0,0,0,0,0,0,0,0,0,0,0,0,0,0,0,0,0,0,0,0,0,0,0,0,0,0] 0 s=s:=qdb (by simp[sl])
  have ss:sub s 0 32=s:=sub_zero sl
  obtain⟨A,hA1⟩:∃k,labkey now (trfC l) s=k:=⟨_,rfl⟩
  obtain⟨B,hB⟩:∃k,labkey now (trfS l) s=k:=⟨_,rfl⟩
  have lA:A.length=32:=by rw[←hA1];exact(labkey_sec _ _ _).1
  have lB:B.length=32:=by rw[←hB];exact(labkey_sec _ _ _).1
  have pA:spl [0,0,0,0,0,0,0,0,0,0,0,0,0,0,0,0,0,0,0,0,0,0,0,0,0,0,0,0,0,0,0,0] 0 A=A:=qdb (by simp[lA])
  have pB:spl [0,0,0,0,0,0,0,0,0,0,0,0,0,0,0,0,0,0,0,0,0,0,0,0,0,0,0,0,0,0,0,0] 0 B=B:=qdb (by simp[lB])
  have sA:sub A 0 32=A:=sub_zero lA
  have sB:sub B 0 32=B:=sub_zero lB
  have q1:preLog0 [.v (.rpc (csS c now) 0),.v .nils]:=⟨_,b,now,rfl,ho'⟩
  have q2:preDer [.v (.rpc (csS c now) 0),.v (.str (trfC l)),.v (.ints .u8 s)]:=⟨_,b,now,_,_,rfl,ho',(trf_dig hl).1,hsec⟩
  have q3:preDer [.v (.rpc (csS c now) 0),.v (.str (trfS l)),.v (.ints .u8 s)]:=⟨_,b,now,_,_,rfl,ho',(trf_dig hl).2,hsec⟩
  have f1:F46 [.v (.rpc (csS c now) 0),.v .nils]=.one (.v (.ints .u8 s)):=by
    show Out.one (.v (.ints .u8 (sumS (getO (.rpc (csS c now) 0)).1)))=_
    rw[hg,hs]
  have f2:F42 [.v (.rpc (csS c now) 0),.v (.str (trfC l)),.v (.ints .u8 s)]=.one (.v (.ints .u8 A)):=by
    show Out.one (.v (.ints .u8 (labkey (getO (.rpc (csS c now) 0)).2 (trfC l) s)))=_
    rw[hg,hA1]
  have f3:F42 [.v (.rpc (csS c now) 0),.v (.str (trfS l)),.v (.ints .u8 s)]=.one (.v (.ints .u8 B)):=by
    show Out.one (.v (.ints .u8 (labkey (getO (.rpc (csS c now) 0)).2 (trfS l) s)))=_
    rw[hg,hB]
  have hF:F28 [.v (.rpc (csS c now) 0),.v (.str l)]=.many [.v (.ints .u8 A),.v (.ints .u8 B)]:=by
    show Out.many [.v (.ints .u8 (labkey (getO (.rpc (csS c now) 0)).2 (trfC l) (sumS (getO (.rpc (csS c now) 0)).1))),.v (.ints .u8 (labkey (getO (.rpc (csS c now) 0)).2 (trfS l) (sumS (getO (.rpc (csS c now) 0)).1)))]=_
    rw[hg,hs,hA1,hB]
  obtain⟨cs,hcs⟩:∃cs,csS c now=cs:=⟨_,rfl⟩
  rw[hcs]at q1 q2 q3 f1 f2 f3 hF
  simp only[trfC,trfS]at q2 q3 f2 f3
  have hp:pursR cs=true:=by
    rw[←hcs]
    have:∀xs:List Int,pursR (xs.map (V.int .u8))=true:=fun xs=>by
      induction xs with
      | nil=>rfl
      | cons x xs ih=>simpa[pursR,purR]using ih
    rcases hc with rfl | ⟨xs,rfl,hx⟩<;>simp[purR,pursR,csS,this]
  simp only[hcs,s46,s42]
  simp only[ir28,rs28,gl,hF,hp,q1,q2,q3,f1,f2,f3,sl,ps,ss,lA,lB,pA,pB,sA,sB,sub_zero,qdb,qai,List.length_cons,List.length_nil,Nat.reduceAdd,Nat.le_refl,Nat.reduceLeDiff,Nat.reduceLT,true_and,and_true,↓evA,evB,evs,evp,mkB,repB,blen,↓retQ,res,resAll,resOne,kill,apartOk,exp,injV,injB,pur,purs,purR,pursR,List.reduceReplicate,Nat.reduceMul,Nat.reduceSub,Nat.reduceEqDiff,Int.reduceToNat,Int.reduceLE,Int.reduceLT,Int.reduceEq,reduceCtorEq,↓reduceIte]
  repeat(refine And.intro (by omega) ?_)
  simp only[out,outs,out1,pur,and_self]
end Am
