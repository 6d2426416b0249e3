/-
Working texts: contracts of functions, and the numbers behind them.
-/
import Derived.Test.YtcefobjfkmfmiaaDoorRfS
import Derived.Test.YtcefobjfkmfmiaaDoorSeA
set_option linter.unusedSimpArgs false
set_option linter.unusedVariables false
set_option linter.unusedSectionVars false
set_option maxRecDepth 20000
namespace Am
open Go.Proofs
/-- So many laid over noughts. -/
def cp (xs:List Int) (n i:Nat):List Int:=xs.take i++List.replicate (n-i) 0
theorem cp_0 {xs:List Int} {n:Nat}:cp xs n 0=List.replicate n 0:=by simp[cp]
theorem cp_n {xs:List Int} {n:Nat} (h:xs.length=n):cp xs n n=xs:=by simp[cp,h,List.take_of_length_le]
theorem cp_len {xs:List Int} {n i:Nat} (h:xs.length=n) (hi:i≤n):(cp xs n i).length=n:=by simp[cp];omega
theorem cp_set {xs:List Int} {n i:Nat} (h:xs.length=n) (hi:i<n):(cp xs n i).set i (getI xs i)=cp xs n (i+1):=by
  have hl:(xs.take i).length=i:=by simp;omega
  rw[cp,cp,List.set_append_right _ _ (by omega),hl,Nat.sub_self,show n-i=(n-(i+1))+1 by omega,List.replicate_succ,List.set_cons_zero,take_getI (by omega),List.append_assoc]
  rfl
def pre24 (ds:List D):Prop:=∃b,ds=[.s .u8 b]∧Dig 256 b∧b.length≤1099511627776
def F24:List D→Out
  | [.s _ b]=>.one (.v (.ints .u8 (sum256 (padded b 64))))
  | _=>bad
def s24:Summ:=sData [.s .u8] pre24 F24
theorem ok24 {g:List Blk} [Ge gl1 g]:SumOK Tryd.prog g 24 s24∧SumAbs s24:=by
  refine fsumA (l:=[(44,s44)]) mixed gl1_plain rfl Tryd.func24 comp24 compR24 nt24 (by simp only[List.mem_cons,List.not_mem_nil,or_false,forall_eq];exact ok44) fun ds ⟨b,hd,hb,hbl⟩ hA=>?_
  subst hd
  simp only[s44]
  have q:pre44 [.s .u8 b,.v (.int .i64 32),.s .i64 rr]:=⟨b,rfl,hb,hbl⟩
  have hr:sub ([7,18,3,17,19,10,6,11,25,2,13,22]:List Int) 0 12=rr:=rfl
  have hbs:sub b 0 b.length=b:=sub_zero rfl
  obtain⟨O,hO⟩:∃O,sum256 (padded b 64)=O:=⟨_,rfl⟩
  have hOl:O.length=32:=by rw[←hO,sum256_len]
  simp only[ir24,rs24,gl1,F24,hr,hbs,q,hO,hOl,s44,F44,sub_zero,qdb,qai,List.length_cons,List.length_nil,Nat.reduceAdd,Nat.le_refl,Nat.reduceLeDiff,Nat.reduceLT,true_and,and_true,↓evA,evB,evs,evp,mkB,repB,blen,↓retQ,res,resAll,resOne,kill,apartOk,exp,injV,injB,pur,purs,purR,pursR,List.reduceReplicate,Nat.reduceMul,Nat.reduceSub,Nat.reduceEqDiff,Int.reduceToNat,Int.reduceLE,Int.reduceLT,Int.reduceEq,reduceCtorEq,↓reduceIte]
  refine awp_loopA (n:=20) hA [2,3,4,5] (by decide +kernel) (fun i:Nat=>[.ptr 5 0,.ptr 6 0,.slice 7 0 1 32 32,.int .i64 i])
    (fun i=>[.ints true .u64 roots,.ints true .u64 roots,.ints true .u64 seconds,.dead,.ints true .u8 b,.ints false .u8 (List.replicate 32 0),.ints false .u8 (cp O 32 i),.ints false .u8 O]) (fun i=>i≤32) (fun i=>32-i) 0 ?_ (by omega) ?_
  · refine Hd.of [0,1,2,3,4,5,6,8] (by decide) (by decide) (by simp) ?_
    simp only[cp_0,gc,gcVs,gcV,posOf,gcH,gcB,Option.map_some,Option.map_none,List.replicate_zero,List.drop_zero,↓evA,evB,evs,evp,mkB,repB,blen,↓retQ,res,resAll,resOne,kill,apartOk,exp,injV,injB,pur,purs,purR,pursR,List.reduceReplicate,Nat.reduceAdd,Nat.reduceMul,Nat.reduceSub,Nat.reduceEqDiff,Nat.reduceLT,Int.reduceToNat,Int.reduceLE,Int.reduceLT,Int.reduceEq,reduceCtorEq,↓reduceIte]
  intro i hi K hK
  have w1:Go.IntKind.i64.wrap ((i:Int)+1)=((i+1:Nat):Int):=by rw[wrap_i64];omega
  have hcl:=cp_len hOl hi
  by_cases h32:i<32
  · have c:(i:Int)<32:=by omega
    simp only[c,w1,hOl,hcl,cp_set hOl h32,sub_zero,qdb,qai,List.length_cons,List.length_nil,Nat.reduceAdd,Nat.le_refl,Nat.reduceLeDiff,Nat.reduceLT,true_and,and_true,↓evA,evB,evs,evp,mkB,repB,blen,↓retQ,res,resAll,resOne,kill,apartOk,exp,injV,injB,pur,purs,purR,pursR,List.reduceReplicate,Nat.reduceMul,Nat.reduceSub,Nat.reduceEqDiff,Int.reduceToNat,Int.reduceLE,Int.reduceLT,Int.reduceEq,reduceCtorEq,↓reduceIte]
    repeat(refine And.intro (by omega) ?_)
    refine⟨i+1,hK _ (by omega) (by omega),Hd.same ?_⟩
    simp only[↓evA,evB,evs,evp,mkB,repB,blen,↓retQ,res,resAll,resOne,kill,apartOk,exp,injV,injB,pur,purs,purR,pursR,List.reduceReplicate,Nat.reduceAdd,Nat.reduceMul,Nat.reduceSub,Nat.reduceEqDiff,Nat.reduceLT,Int.reduceToNat,Int.reduceLE,Int.reduceLT,Int.reduceEq,reduceCtorEq,↓reduceIte]
  have hi32:i=32:=by omega
  subst hi32
  have c:¬((32:Nat):Int)<32:=by omega
  have sO:sub O 0 32=O:=sub_zero hOl
  simp only[c,cp_n hOl,hOl,sO,sub_zero,qdb,qai,List.length_cons,List.length_nil,Nat.reduceAdd,Nat.le_refl,Nat.reduceLeDiff,Nat.reduceLT,true_and,and_true,↓evA,evB,evs,evp,mkB,repB,blen,↓retQ,res,resAll,resOne,kill,apartOk,exp,injV,injB,pur,purs,purR,pursR,List.reduceReplicate,Nat.reduceMul,Nat.reduceSub,Nat.reduceEqDiff,Int.reduceToNat,Int.reduceLE,Int.reduceLT,Int.reduceEq,reduceCtorEq,↓reduceIte]
  exact out_ints rfl
theorem kpad_get {k:List Int} {i:Nat}:getI (kpad k) i=if i<(key0 k).length then getI (key0 k) i else 0:=by
  rw[kpad]
  split
  · rw[getI_append_left (by assumption)]
  · rw[getI_append_right (by omega),getI_replicate0]
theorem map_take {f:Int→Int} {l:List Int} {i:Nat} (h:i<l.length):(l.map f).take (i+1)=(l.map f).take i++[f (getI l i)]:=by
  rw[take_getI (by simpa using h),getI_map h]
def pre15 (ds:List D):Prop:=∃(k m:List Int),ds=[.s .u8 k,.s .u8 m]∧Dig 256 k∧k.length≤549755813888∧Dig 256 m∧m.length≤549755813888
def F15:List D→Out
  | [.s _ k,.s _ m]=>.one (.v (.ints .u8 (hmac k m)))
  | _=>bad
def s15:Summ:=sData [.s .u8,.s .u8] pre15 F15
set_option maxHeartbeats 2000000 in
theorem ok15 {g:List Blk} [Ge gl1 g]:SumOK Tryd.prog g 15 s15∧SumAbs s15:=by
  refine fsumA (l:=[(24,s24)]) mixed gl1_plain rfl Tryd.func15 comp15 compR15 nt15 (by simp only[List.mem_cons,List.not_mem_nil,or_false,forall_eq];exact ok24) fun ds ⟨k,m,hd,hk,hkl,hm,hml⟩ hA=>?_
  subst hd
  simp only[s24]
  have sk:sub k 0 k.length=k:=sub_zero rfl
  have sm:sub m 0 m.length=m:=sub_zero rfl
  obtain⟨kp,hkp⟩:∃kp,kpad k=kp:=⟨_,rfl⟩
  have hkpl:kp.length=64:=by rw[←hkp,kpad_len]
  obtain⟨A,hA'⟩:∃A,(kp.map fun x=>bXor .u8 x 54)=A:=⟨_,rfl⟩
  obtain⟨B,hB'⟩:∃B,(kp.map fun x=>bXor .u8 x 92)=B:=⟨_,rfl⟩
  have hAl:A.length=64:=by rw[←hA'];simpa using hkpl
  have hBl:B.length=64:=by rw[←hB'];simpa using hkpl
  have hAd:Dig 256 A:=by rw[←hA'];exact bXor8_dig _
  have hBd:Dig 256 B:=by rw[←hB'];exact bXor8_dig _
  have hAt:∀i,i<64→A.take (i+1)=A.take i++[bXor .u8 (getI kp i) 54]:=fun i hi=>by rw[←hA',map_take (by omega)]
  have hBt:∀i,i<64→B.take (i+1)=B.take i++[bXor .u8 (getI kp i) 92]:=fun i hi=>by rw[←hB',map_take (by omega)]
  obtain⟨h1,hh1⟩:∃h1,sum256 (padded (A++m) 64)=h1:=⟨_,rfl⟩
  have hh1l:h1.length=32:=by rw[←hh1,sum256_len]
  have hh1d:Dig 256 h1:=by rw[←hh1];exact sum256_dig _
  obtain⟨h2,hh2⟩:∃h2,sum256 (padded (B++h1) 64)=h2:=⟨_,rfl⟩
  have hh2l:h2.length=32:=by rw[←hh2,sum256_len]
  have hres:hmac k m=h2:=by rw[hmac,hkp,hA',hh1,hB',hh2]
  have q1:pre24 [.s .u8 (A++m)]:=⟨_,rfl,hAd.append hm,by rw[List.length_append];omega⟩
  have q2:pre24 [.s .u8 (B++h1)]:=⟨_,rfl,hBd.append hh1d,by rw[List.length_append];omega⟩
  have q0:pre24 [.s .u8 k]:=⟨_,rfl,hk,by omega⟩
  have s1:sub (A++m) 0 (64+m.length)=A++m:=sub_zero (by rw[List.length_append,hAl])
  have s2:sub (B++h1) 0 (64+32)=B++h1:=sub_zero (by rw[List.length_append,hBl,hh1l])
  simp only[Nat.reduceAdd]at s2
  have s3:sub h1 0 32=h1:=sub_zero hh1l
  have s4:sub h2 0 32=h2:=sub_zero hh2l
  have hlA:A.length+m.length=64+m.length:=by omega
  have tA:A.take 64=A:=List.take_of_length_le (by omega)
  have tB:B.take 64=B:=List.take_of_length_le (by omega)
  have w01:Go.IntKind.i64.wrap (0+1)=1:=by decide
  obtain⟨s0,hs0⟩:∃s0,sum256 (padded k 64)=s0:=⟨_,rfl⟩
  have hs0l:s0.length=32:=by rw[←hs0,sum256_len]
  by_cases hlong:64<k.length
  · have hc:(64:Int)<k.length:=by omega
    have hk0:key0 k=s0:=by rw[key0,if_pos hlong,hs0]
    have hkl0:s0.length=32:=hs0l
    simp only[ir15,rs15,gl1,F15,hc,sk,q0,hs0,hs0l,s24,F24,sub_zero,qdb,qai,List.length_cons,List.length_nil,Nat.reduceAdd,Nat.le_refl,Nat.reduceLeDiff,Nat.reduceLT,true_and,and_true,↓evA,evB,evs,evp,mkB,repB,blen,↓retQ,res,resAll,resOne,kill,apartOk,exp,injV,injB,pur,purs,purR,pursR,List.reduceReplicate,Nat.reduceMul,Nat.reduceSub,Nat.reduceEqDiff,Int.reduceToNat,Int.reduceLE,Int.reduceLT,Int.reduceEq,reduceCtorEq,↓reduceIte]
    refine awp_loopA (n:=47) hA [0,1,4,6,7,8] (by decide +kernel) (fun i:Nat=>[.slice 7 0 1 32 32,.slice 5 0 1 m.length m.length,.ptr 6 0,ap 8 i,ap 9 i,.int .i64 i])
      (fun i=>[.ints true .u64 roots,.ints true .u64 roots,.ints true .u64 seconds,.dead,.ints true .u8 k,.ints true .u8 m,.ints false .u8 (List.replicate 32 0),.ints false .u8 s0]++(apB .u8 (A.take i)++apB .u8 (B.take i))) (fun i=>i≤64) (fun i=>64-i) 0 ?_ (by omega) ?_
    · refine Hd.same ?_
      simp only[ap_0,List.take_zero,apB_nil,↓evA,evB,evs,evp,mkB,repB,blen,↓retQ,res,resAll,resOne,kill,apartOk,exp,injV,injB,pur,purs,purR,pursR,List.reduceReplicate,Nat.reduceAdd,Nat.reduceMul,Nat.reduceSub,Nat.reduceEqDiff,Nat.reduceLT,Int.reduceToNat,Int.reduceLE,Int.reduceLT,Int.reduceEq,reduceCtorEq,↓reduceIte]
    intro i hi K hK
    have w1:Go.IntKind.i64.wrap ((i:Int)+1)=((i+1:Nat):Int):=by rw[wrap_i64];omega
    by_cases h64:i<64
    · have c1:(i:Int)<64:=by omega
      have a1:=hAt i h64
      have b1:=hBt i h64
      have la:(A.take i).length=i:=by rw[List.length_take];omega
      have lb:(B.take i).length=i:=by rw[List.length_take];omega
      have pA:apB .u8 (A.take (i+1))=[.ints false .u8 (A.take (i+1))]:=apB_pos (by rw[List.length_take];omega)
      have pB:apB .u8 (B.take (i+1))=[.ints false .u8 (B.take (i+1))]:=apB_pos (by rw[List.length_take];omega)
      rw[a1]at pA
      rw[b1]at pB
      have hg:getI kp i=if i<s0.length then getI s0 i else 0:=by rw[←hkp,kpad_get,hk0]
      by_cases hin:i<s0.length
      all_goals
        first
          | (have c2:(i:Int)<(32:Int):=by omega
             rw[if_pos hin]at hg)
          | (have c2:¬(i:Int)<(32:Int):=by omega
             rw[if_neg hin]at hg)
        rw[hg]at a1 b1 pA pB
        by_cases h0:i=0
        · have hA0:ap 8 i=.nils:=by rw[h0,ap_0]
          have hB0:ap 9 i=.nils:=by rw[h0,ap_0]
          have ta0:A.take i=[]:=by rw[h0,List.take_zero]
          have tb0:B.take i=[]:=by rw[h0,List.take_zero]
          have hA1:ap 8 (i+1)=.slice 8 0 1 1 1:=by rw[h0,ap_s]
          have hB1:ap 9 (i+1)=.slice 9 0 1 1 1:=by rw[h0,ap_s]
          rw[ta0,List.nil_append]at a1 pA
          rw[tb0,List.nil_append]at b1 pB
          simp only[c1,c2,w1,hA0,hB0,ta0,tb0,apB_nil,sub_zero,qdb,qai,List.length_cons,List.length_nil,Nat.reduceAdd,Nat.le_refl,Nat.reduceLeDiff,Nat.reduceLT,true_and,and_true,↓evA,evB,evs,evp,mkB,repB,blen,↓retQ,res,resAll,resOne,kill,apartOk,exp,injV,injB,pur,purs,purR,pursR,List.reduceReplicate,Nat.reduceMul,Nat.reduceSub,Nat.reduceEqDiff,Int.reduceToNat,Int.reduceLE,Int.reduceLT,Int.reduceEq,reduceCtorEq,↓reduceIte]
          repeat(refine And.intro (by omega) ?_)
          refine⟨i+1,hK _ (by omega) (by omega),Hd.of [0,1,2,3,4,5,6,7,9,11] (by decide) (by decide) (by simp) ?_⟩
          simp only[hA1,hB1,a1,b1,pA,pB,hg,gc,gcVs,gcV,posOf,gcH,gcB,Option.map_some,Option.map_none,List.replicate_zero,List.drop_zero,↓evA,evB,evs,evp,mkB,repB,blen,↓retQ,res,resAll,resOne,kill,apartOk,exp,injV,injB,pur,purs,purR,pursR,List.reduceReplicate,Nat.reduceAdd,Nat.reduceMul,Nat.reduceSub,Nat.reduceEqDiff,Nat.reduceLT,Int.reduceToNat,Int.reduceLE,Int.reduceLT,Int.reduceEq,reduceCtorEq,↓reduceIte]
        · obtain⟨j,rfl⟩:∃j,i=j+1:=⟨i-1,by omega⟩
          have pA0:=apB_pos (k:=.u8) (xs:=A.take (j+1)) (by omega)
          have pB0:=apB_pos (k:=.u8) (xs:=B.take (j+1)) (by omega)
          simp only[c1,c2,w1,ap_s,pA0,pB0,la,lb,sub_zero,qdb,qai,List.length_cons,List.length_nil,Nat.reduceAdd,Nat.le_refl,Nat.reduceLeDiff,Nat.reduceLT,true_and,and_true,↓evA,evB,evs,evp,mkB,repB,blen,↓retQ,res,resAll,resOne,kill,apartOk,exp,injV,injB,pur,purs,purR,pursR,List.reduceReplicate,Nat.reduceMul,Nat.reduceSub,Nat.reduceEqDiff,Int.reduceToNat,Int.reduceLE,Int.reduceLT,Int.reduceEq,reduceCtorEq,↓reduceIte]
          repeat(refine And.intro (by omega) ?_)
          refine⟨j+1+1,hK _ (by omega) (by omega),Hd.of [0,1,2,3,4,5,6,7,11,13] (by decide) (by decide) (by simp) ?_⟩
          simp only[ap_s,a1,b1,pA,pB,hg,gc,gcVs,gcV,posOf,gcH,gcB,Option.map_some,Option.map_none,List.replicate_zero,List.drop_zero,↓evA,evB,evs,evp,mkB,repB,blen,↓retQ,res,resAll,resOne,kill,apartOk,exp,injV,injB,pur,purs,purR,pursR,List.reduceReplicate,Nat.reduceAdd,Nat.reduceMul,Nat.reduceSub,Nat.reduceEqDiff,Nat.reduceLT,Int.reduceToNat,Int.reduceLE,Int.reduceLT,Int.reduceEq,reduceCtorEq,↓reduceIte]
    have hi64:i=64:=by omega
    subst hi64
    have c1:¬((64:Nat):Int)<64:=by omega
    have pA:=apB_pos (k:=.u8) (xs:=A) (by omega)
    have pB:=apB_pos (k:=.u8) (xs:=B) (by omega)
    simp only[c1,tA,tB,pA,pB,ap_s (n:=63),hAl,hBl,hlA,sm,s1,s2,s3,s4,q1,q2,hh1,hh1l,hh2,hh2l,hres,s24,F24,sub_zero,qdb,qai,List.length_cons,List.length_nil,Nat.reduceAdd,Nat.le_refl,Nat.reduceLeDiff,Nat.reduceLT,true_and,and_true,↓evA,evB,evs,evp,mkB,repB,blen,↓retQ,res,resAll,resOne,kill,apartOk,exp,injV,injB,pur,purs,purR,pursR,List.reduceReplicate,Nat.reduceMul,Nat.reduceSub,Nat.reduceEqDiff,Int.reduceToNat,Int.reduceLE,Int.reduceLT,Int.reduceEq,reduceCtorEq,↓reduceIte]
    repeat(refine And.intro (by omega) ?_)
    exact out_ints rfl
  · have hc:¬(64:Int)<k.length:=by omega
    have hk0:key0 k=k:=by rw[key0,if_neg hlong]
    have hkl0:k.length=k.length:=rfl
    simp only[ir15,rs15,gl1,F15,hc,sk,q0,hs0,s24,F24,sub_zero,qdb,qai,List.length_cons,List.length_nil,Nat.reduceAdd,Nat.le_refl,Nat.reduceLeDiff,Nat.reduceLT,true_and,and_true,↓evA,evB,evs,evp,mkB,repB,blen,↓retQ,res,resAll,resOne,kill,apartOk,exp,injV,injB,pur,purs,purR,pursR,List.reduceReplicate,Nat.reduceMul,Nat.reduceSub,Nat.reduceEqDiff,Int.reduceToNat,Int.reduceLE,Int.reduceLT,Int.reduceEq,reduceCtorEq,↓reduceIte]
    refine awp_loopA (n:=47) hA [0,1,4,6,7,8] (by decide +kernel) (fun i:Nat=>[.slice 4 0 1 k.length k.length,.slice 5 0 1 m.length m.length,.ptr 6 0,ap 7 i,ap 8 i,.int .i64 i])
      (fun i=>[.ints true .u64 roots,.ints true .u64 roots,.ints true .u64 seconds,.dead,.ints true .u8 k,.ints true .u8 m,.ints false .u8 (List.replicate 32 0)]++(apB .u8 (A.take i)++apB .u8 (B.take i))) (fun i=>i≤64) (fun i=>64-i) 0 ?_ (by omega) ?_
    · refine Hd.same ?_
      simp only[ap_0,List.take_zero,apB_nil,↓evA,evB,evs,evp,mkB,repB,blen,↓retQ,res,resAll,resOne,kill,apartOk,exp,injV,injB,pur,purs,purR,pursR,List.reduceReplicate,Nat.reduceAdd,Nat.reduceMul,Nat.reduceSub,Nat.reduceEqDiff,Nat.reduceLT,Int.reduceToNat,Int.reduceLE,Int.reduceLT,Int.reduceEq,reduceCtorEq,↓reduceIte]
    intro i hi K hK
    have w1:Go.IntKind.i64.wrap ((i:Int)+1)=((i+1:Nat):Int):=by rw[wrap_i64];omega
    by_cases h64:i<64
    · have c1:(i:Int)<64:=by omega
      have a1:=hAt i h64
      have b1:=hBt i h64
      have la:(A.take i).length=i:=by rw[List.length_take];omega
      have lb:(B.take i).length=i:=by rw[List.length_take];omega
      have pA:apB .u8 (A.take (i+1))=[.ints false .u8 (A.take (i+1))]:=apB_pos (by rw[List.length_take];omega)
      have pB:apB .u8 (B.take (i+1))=[.ints false .u8 (B.take (i+1))]:=apB_pos (by rw[List.length_take];omega)
      rw[a1]at pA
      rw[b1]at pB
      have hg:getI kp i=if i<k.length then getI k i else 0:=by rw[←hkp,kpad_get,hk0]
      by_cases hin:i<k.length
      all_goals
        first
          | (have c2:(i:Int)<(k.length:Int):=by omega
             rw[if_pos hin]at hg)
          | (have c2:¬(i:Int)<(k.length:Int):=by omega
             rw[if_neg hin]at hg)
        rw[hg]at a1 b1 pA pB
        by_cases h0:i=0
        · have hA0:ap 7 i=.nils:=by rw[h0,ap_0]
          have hB0:ap 8 i=.nils:=by rw[h0,ap_0]
          have ta0:A.take i=[]:=by rw[h0,List.take_zero]
          have tb0:B.take i=[]:=by rw[h0,List.take_zero]
          have hA1:ap 7 (i+1)=.slice 7 0 1 1 1:=by rw[h0,ap_s]
          have hB1:ap 8 (i+1)=.slice 8 0 1 1 1:=by rw[h0,ap_s]
          rw[ta0,List.nil_append]at a1 pA
          rw[tb0,List.nil_append]at b1 pB
          simp only[c1,c2,w1,hA0,hB0,ta0,tb0,apB_nil,sub_zero,qdb,qai,List.length_cons,List.length_nil,Nat.reduceAdd,Nat.le_refl,Nat.reduceLeDiff,Nat.reduceLT,true_and,and_true,↓evA,evB,evs,evp,mkB,repB,blen,↓retQ,res,resAll,resOne,kill,apartOk,exp,injV,injB,pur,purs,purR,pursR,List.reduceReplicate,Nat.reduceMul,Nat.reduceSub,Nat.reduceEqDiff,Int.reduceToNat,Int.reduceLE,Int.reduceLT,Int.reduceEq,reduceCtorEq,↓reduceIte]
          repeat(refine And.intro (by omega) ?_)
          refine⟨i+1,hK _ (by omega) (by omega),Hd.of [0,1,2,3,4,5,6,8,10] (by decide) (by decide) (by simp) ?_⟩
          simp only[hA1,hB1,a1,b1,pA,pB,hg,gc,gcVs,gcV,posOf,gcH,gcB,Option.map_some,Option.map_none,List.replicate_zero,List.drop_zero,↓evA,evB,evs,evp,mkB,repB,blen,↓retQ,res,resAll,resOne,kill,apartOk,exp,injV,injB,pur,purs,purR,pursR,List.reduceReplicate,Nat.reduceAdd,Nat.reduceMul,Nat.reduceSub,Nat.reduceEqDiff,Nat.reduceLT,Int.reduceToNat,Int.reduceLE,Int.reduceLT,Int.reduceEq,reduceCtorEq,↓reduceIte]
        · obtain⟨j,rfl⟩:∃j,i=j+1:=⟨i-1,by omega⟩
          have pA0:=apB_pos (k:=.u8) (xs:=A.take (j+1)) (by omega)
          have pB0:=apB_pos (k:=.u8) (xs:=B.take (j+1)) (by omega)
          simp only[c1,c2,w1,ap_s,pA0,pB0,la,lb,sub_zero,qdb,qai,List.length_cons,List.length_nil,Nat.reduceAdd,Nat.le_refl,Nat.reduceLeDiff,Nat.reduceLT,true_and,and_true,↓evA,evB,evs,evp,mkB,repB,blen,↓retQ,res,resAll,resOne,kill,apartOk,exp,injV,injB,pur,purs,purR,pursR,List.reduceReplicate,Nat.reduceMul,Nat.reduceSub,Nat.reduceEqDiff,Int.reduceToNat,Int.reduceLE,Int.reduceLT,Int.reduceEq,reduceCtorEq,↓reduceIte]
          repeat(refine And.intro (by omega) ?_)
          refine⟨j+1+1,hK _ (by omega) (by omega),Hd.of [0,1,2,3,4,5,6,10,12] (by decide) (by decide) (by simp) ?_⟩
          simp only[ap_s,a1,b1,pA,pB,hg,gc,gcVs,gcV,posOf,gcH,gcB,Option.map_some,Option.map_none,List.replicate_zero,List.drop_zero,↓evA,evB,evs,evp,mkB,repB,blen,↓retQ,res,resAll,resOne,kill,apartOk,exp,injV,injB,pur,purs,purR,pursR,List.reduceReplicate,Nat.reduceAdd,Nat.reduceMul,Nat.reduceSub,Nat.reduceEqDiff,Nat.reduceLT,Int.reduceToNat,Int.reduceLE,Int.reduceLT,Int.reduceEq,reduceCtorEq,↓reduceIte]
    have hi64:i=64:=by omega
    subst hi64
    have c1:¬((64:Nat):Int)<64:=by omega
    have pA:=apB_pos (k:=.u8) (xs:=A) (by omega)
    have pB:=apB_pos (k:=.u8) (xs:=B) (by omega)
    simp only[c1,tA,tB,pA,pB,ap_s (n:=63),hAl,hBl,hlA,sm,s1,s2,s3,s4,q1,q2,hh1,hh1l,hh2,hh2l,hres,s24,F24,sub_zero,qdb,qai,List.length_cons,List.length_nil,Nat.reduceAdd,Nat.le_refl,Nat.reduceLeDiff,Nat.reduceLT,true_and,and_true,↓evA,evB,evs,evp,mkB,repB,blen,↓retQ,res,resAll,resOne,kill,apartOk,exp,injV,injB,pur,purs,purR,pursR,List.reduceReplicate,Nat.reduceMul,Nat.reduceSub,Nat.reduceEqDiff,Int.reduceToNat,Int.reduceLE,Int.reduceLT,Int.reduceEq,reduceCtorEq,↓reduceIte]
    repeat(refine And.intro (by omega) ?_)
    exact out_ints rfl
def pre16 (ds:List D):Prop:=∃(s info:List Int) (n:Nat),ds=[.v (.ints .u8 s),.s .u8 info,.v (.int .i64 n)]∧Dig 256 s∧s.length=32∧Dig 256 info∧info.length≤274877906944∧n≤8160
def F16:List D→Out
  | [.v (.ints _ s),.s _ info,.v (.int _ n)]=>.one (.s .u8 (expand s info n.toNat))
  | _=>bad
def s16:Summ:=sData [.v,.s .u8,.v] pre16 F16
theorem ok16 {g:List Blk} [Ge gl1 g]:SumOK Tryd.prog g 16 s16∧SumAbs s16:=by
  refine fsumA (l:=[(15,s15)]) mixed gl1_plain rfl Tryd.func16 comp16 compR16 nt16 (by simp only[List.mem_cons,List.not_mem_nil,or_false,forall_eq];exact ok15) fun ds ⟨s,info,m,hd,hs,hsl,hin,hil,hm⟩ hA=>?_
  subst hd
  simp only[s15]
  have es:sub s 0 32=s:=sub_zero hsl
  have ei:sub info 0 info.length=info:=sub_zero rfl
  simp only[ir16,rs16,gl1,s15,F15,F16,hsl,sub_zero,qdb,qai,List.length_cons,List.length_nil,Nat.reduceAdd,Nat.le_refl,Nat.reduceLeDiff,Nat.reduceLT,true_and,and_true,↓evA,evB,evs,evp,mkB,repB,blen,↓retQ,res,resAll,resOne,kill,apartOk,exp,injV,injB,pur,purs,purR,pursR,List.reduceReplicate,Nat.reduceMul,Nat.reduceSub,Nat.reduceEqDiff,Int.reduceToNat,Int.reduceLE,Int.reduceLT,Int.reduceEq,reduceCtorEq,↓reduceIte]
  refine awp_loopA (n:=37) hA [1,2,3,7,8,9] (by decide +kernel) (fun i:Nat=>[.slice 4 0 1 info.length info.length,.int .i64 m,.ptr 5 0,sl1 7 (32*i) i,sl1 6 32 i,.int .i64 (i+1:Nat)])
    (fun i=>[.ints true .u64 roots,.ints true .u64 roots,.ints true .u64 seconds,.dead,.ints true .u8 info,.ints false .u8 s]++bl2 (exps s info i) i)
    (fun i=>i≤(m+31)/32) (fun i=>(m+31)/32-i) 0 ?_ (by omega) ?_
  · refine Hd.same ?_
    simp only[sl1_0,bl2_0,↓evA,evB,evs,evp,mkB,repB,blen,↓retQ,res,resAll,resOne,kill,apartOk,exp,injV,injB,pur,purs,purR,pursR,List.reduceReplicate,Nat.reduceAdd,Nat.reduceMul,Nat.reduceSub,Nat.reduceEqDiff,Nat.reduceLT,Int.reduceToNat,Int.reduceLE,Int.reduceLT,Int.reduceEq,reduceCtorEq,↓reduceIte]
  intro i hi K hK
  obtain⟨o,ho⟩:∃o,(exps s info i).1=o:=⟨_,rfl⟩
  obtain⟨la,hla⟩:∃la,(exps s info i).2=la:=⟨_,rfl⟩
  have hol:o.length=32*i:=by rw[←ho,exps_len]
  have hlad:Dig 256 la:=by rw[←hla];exact exps_dig i
  have w1:Go.IntKind.i64.wrap (((i+1:Nat):Int)+1)=((i+1+1:Nat):Int):=by rw[wrap_i64];omega
  obtain⟨h,hh⟩:∃h,hmac s (la++(info++[((i+1:Nat):Int)]))=h:=⟨_,rfl⟩
  have hhl:h.length=32:=by rw[←hh,hmac_len]
  have sm:sub h 0 32=h:=sub_zero hhl
  have hst:exps s info (i+1)=(o++h,h):=by rw[exps,ho,hla,hh]
  have hlen:(i=0∧la=[])∨(∃j,i=j+1∧la.length=32):=by
    cases i with
    | zero=>exact .inl ⟨rfl,by rw[←hla];rfl⟩
    | succ j=>exact .inr ⟨j,rfl,by rw[←hla,exps_snd,hmac_len]⟩
  by_cases hc:32*i<m
  · have hc':((32*i:Nat):Int)<m:=by omega
    have hw8:Go.IntKind.u8.wrap ((i+1:Nat):Int)=((i+1:Nat):Int):=by rw[wrap_u8];omega
    have hd1:Dig 256 [((i+1:Nat):Int)]:=fun x hx=>by simp at hx;omega
    have q:pre15 [.s .u8 s,.s .u8 (la++(info++[((i+1:Nat):Int)]))]:=⟨s,_,rfl,hs,by omega,hlad.append (hin.append hd1),by rcases hlen with ⟨_,e⟩ | ⟨_,_,e⟩<;>simp[e]<;>omega⟩
    rcases hlen with ⟨rfl,rfl⟩ | ⟨j,rfl,hll⟩
    · have hc0:(0:Int)<m:=by omega
      have ho0:o=[]:=by rw[←ho];rfl
      subst ho0
      have si:sub (info++[1]) 0 (info.length+1)=info++[1]:=sub_zero (by simp)
      simp only[Nat.zero_add,Int.natCast_one,List.nil_append]at hh hw8 w1 hst q
      simp only[sl1_0,sl1_s,bl2_0,bl2_s,hc0,hsl,es,ei,si,q,sm,w1,hw8,hh,hhl,s15,F15,Nat.zero_add,Int.natCast_one,sub_zero,qdb,qai,List.length_cons,List.length_nil,Nat.reduceAdd,Nat.le_refl,Nat.reduceLeDiff,Nat.reduceLT,true_and,and_true,↓evA,evB,evs,evp,mkB,repB,blen,↓retQ,res,resAll,resOne,kill,apartOk,exp,injV,injB,pur,purs,purR,pursR,List.reduceReplicate,Nat.reduceMul,Nat.reduceSub,Nat.reduceEqDiff,Int.reduceToNat,Int.reduceLE,Int.reduceLT,Int.reduceEq,reduceCtorEq,↓reduceIte]
      repeat(refine And.intro (by omega) ?_)
      refine⟨1,hK _ (by omega) (by omega),Hd.of [0,1,2,3,4,5,13,14] (by decide) (by decide) (by simp) ?_⟩
      simp only[hst,sl1_s (i:=0),bl2_s (i:=0),gc,gcVs,gcV,posOf,gcH,gcB,Option.map_some,Option.map_none,List.replicate_zero,List.drop_zero,↓evA,evB,evs,evp,mkB,repB,blen,↓retQ,res,resAll,resOne,kill,apartOk,exp,injV,injB,pur,purs,purR,pursR,List.reduceReplicate,Nat.reduceAdd,Nat.reduceMul,Nat.reduceSub,Nat.reduceEqDiff,Nat.reduceLT,Int.reduceToNat,Int.reduceLE,Int.reduceLT,Int.reduceEq,reduceCtorEq,↓reduceIte]
    · have sla:sub la 0 32=la:=sub_zero hll
      have si:sub (la++(info++[((j+1+1:Nat):Int)])) 0 (32+info.length+1)=la++(info++[((j+1+1:Nat):Int)]):=sub_zero (by simp;omega)
      have e1:32*(j+1)+32=32*(j+1+1):=by omega
      have e2:la.length+info.length=32+info.length:=by omega
      simp only[sl1_0,sl1_s,bl2_0,bl2_s,hc',hsl,es,ei,q,sm,sla,si,w1,hw8,hh,hhl,ho,hla,hll,e2,s15,F15,sub_zero,qdb,qai,List.length_cons,List.length_nil,Nat.reduceAdd,Nat.le_refl,Nat.reduceLeDiff,Nat.reduceLT,true_and,and_true,↓evA,evB,evs,evp,mkB,repB,blen,↓retQ,res,resAll,resOne,kill,apartOk,exp,injV,injB,pur,purs,purR,pursR,List.reduceReplicate,Nat.reduceMul,Nat.reduceSub,Nat.reduceEqDiff,Int.reduceToNat,Int.reduceLE,Int.reduceLT,Int.reduceEq,reduceCtorEq,↓reduceIte]
      repeat(refine And.intro (by omega) ?_)
      refine⟨j+1+1,hK _ (by omega) (by omega),Hd.of [0,1,2,3,4,5,15,16] (by decide) (by decide) (by simp) ?_⟩
      simp only[hst,sl1_s,bl2_s,e1,gc,gcVs,gcV,posOf,gcH,gcB,Option.map_some,Option.map_none,List.replicate_zero,List.drop_zero,↓evA,evB,evs,evp,mkB,repB,blen,↓retQ,res,resAll,resOne,kill,apartOk,exp,injV,injB,pur,purs,purR,pursR,List.reduceReplicate,Nat.reduceAdd,Nat.reduceMul,Nat.reduceSub,Nat.reduceEqDiff,Nat.reduceLT,Int.reduceToNat,Int.reduceLE,Int.reduceLT,Int.reduceEq,reduceCtorEq,↓reduceIte]
  · have hc':¬((32*i:Nat):Int)<m:=by omega
    rcases hlen with ⟨rfl,rfl⟩ | ⟨j,rfl,hll⟩
    · have hc0:¬(0:Int)<m:=by omega
      simp only[sl1_0,sl1_s,bl2_0,bl2_s,hc0,sub_zero,qdb,qai,List.length_cons,List.length_nil,Nat.reduceAdd,Nat.le_refl,Nat.reduceLeDiff,Nat.reduceLT,true_and,and_true,↓evA,evB,evs,evp,mkB,repB,blen,↓retQ,res,resAll,resOne,kill,apartOk,exp,injV,injB,pur,purs,purR,pursR,List.reduceReplicate,Nat.reduceMul,Nat.reduceSub,Nat.reduceEqDiff,Int.reduceToNat,Int.reduceLE,Int.reduceLT,Int.reduceEq,reduceCtorEq,↓reduceIte]
      have hm0:m=0:=by omega
      subst hm0
      refine⟨by omega,by omega,?_⟩
      simp[out,outs,out1,pur,expand]
    · simp only[sl1_0,sl1_s,bl2_0,bl2_s,hc',ho,hla,sub_zero,qdb,qai,List.length_cons,List.length_nil,Nat.reduceAdd,Nat.le_refl,Nat.reduceLeDiff,Nat.reduceLT,true_and,and_true,↓evA,evB,evs,evp,mkB,repB,blen,↓retQ,res,resAll,resOne,kill,apartOk,exp,injV,injB,pur,purs,purR,pursR,List.reduceReplicate,Nat.reduceMul,Nat.reduceSub,Nat.reduceEqDiff,Int.reduceToNat,Int.reduceLE,Int.reduceLT,Int.reduceEq,reduceCtorEq,↓reduceIte]
      have hm1:(m+31)/32=j+1:=by omega
      refine⟨by omega,by omega,out_sl (b:=7) (ys:=o) rfl (by omega) (by omega) ?_⟩
      rw[expand,hm1,ho]
      simp[sub]
def pre17 (ds:List D):Prop:=∃(lab ctx:List Int) (n:Nat),ds=[.v (.str lab),.s .u8 ctx,.v (.int .i64 n)]∧Dig 256 lab∧lab.length≤1000000∧Dig 256 ctx∧ctx.length≤274877906944∧n<65536
def F17:List D→Out
  | [.v (.str lab),.s _ ctx,.v (.int _ n)]=>.one (.s .u8 (labinfo lab ctx n))
  | _=>bad
def s17:Summ:=sData [.v,.s .u8,.v] pre17 F17
theorem ok17 {g:List Blk} [Ge gl1 g]:SumOK Tryd.prog g 17 s17∧SumAbs s17:=by
  refine fsumA (l:=[]) mixed gl1_plain rfl Tryd.func17 comp17 compR17 nt17 (by simp) fun ds ⟨lab,ctx,n,hd,hlab,hll,hctx,hcl,hn⟩ hA=>?_
  subst hd
  have ec:sub ctx 0 ctx.length=ctx:=sub_zero rfl
  have n2:¬(256:Int)=0:=by decide
  have e1:Go.IntKind.u8.wrap (Go.IntKind.i64.wrap ((n:Int).tdiv 256))=Go.IntKind.u8.wrap (iShr .i64 (n:Int) 8):=by
    have h3:iShr .i64 (n:Int) 8=(n:Int)/256:=by simp only[iShr,Go.IntKind.bits];rw[Int.fdiv_eq_ediv_of_nonneg _ (by decide)];rfl
    rw[h3,wrap_u8,wrap_u8,wrap_i64,Int.tdiv_eq_ediv_of_nonneg (by omega)];omega
  have e2:Go.IntKind.u8.wrap ((n:Int).tmod 256)=Go.IntKind.u8.wrap (n:Int):=by
    rw[wrap_u8,wrap_u8,Int.tmod_eq_emod_of_nonneg (by omega)];omega
  have hsub6:∀l:List Int,sub ((116:Int)::108::115::49::51::32::l) 0 (l.length+6)=116::108::115::49::51::32::l:=fun l=>sub_zero (by simp)
  simp only[ir17,rs17,gl1,F17,n2,e1,e2,ec,sub_zero,qdb,qai,List.length_cons,List.length_nil,Nat.reduceAdd,Nat.le_refl,Nat.reduceLeDiff,Nat.reduceLT,true_and,and_true,↓evA,evB,evs,evp,mkB,repB,blen,↓retQ,res,resAll,resOne,kill,apartOk,exp,injV,injB,pur,purs,purR,pursR,List.reduceReplicate,Nat.reduceMul,Nat.reduceSub,Nat.reduceEqDiff,Int.reduceToNat,Int.reduceLE,Int.reduceLT,Int.reduceEq,reduceCtorEq,↓reduceIte]
  repeat(refine And.intro (by omega) ?_)
  exact out_sl (b:=10) rfl (by omega) (by simp;omega) (sub_zero (by simp;omega))
end Am
set_option maxRecDepth 20000
namespace Am
open Go.Proofs
/-! ### Finished; the reference's shadow -/
def lfin:List Int:=[102,105,110,105,115,104,101,100]
def finS (s m:List Int):List Int:=hmac (ex s lfin 32) m
def preSS (ds:List D):Prop:=∃s m:List Int,ds=[.v (.ints .u8 s),.v (.ints .u8 m)]∧Sec s∧Sec m
def F19:List D→Out
  | [.v (.ints _ s),.v (.ints _ m)]=>.one (.v (.ints .u8 (finS s m)))
  | _=>bad
def s19:Summ:=sData [.v,.v] preSS F19
theorem ok19 {g:List Blk} [Ge gl g]:SumOK Tryd.prog g 19 s19∧SumAbs s19:=by
  refine fsumA (l:=[(40,s40),(41,s41)]) mixed gl_plain rfl Tryd.func19 comp19 compR19 nt19 (by simp only[List.mem_cons,List.not_mem_nil,or_false,forall_eq_or_imp,forall_eq];exact⟨ok40,ok41⟩) fun ds ⟨s,m,hd,hs,hm⟩ hA=>?_
  subst hd
  have hsl:=hs.1
  have hml:=hm.1
  have ss:sub s 0 32=s:=sub_zero hsl
  have sm:sub m 0 32=m:=sub_zero hml
  have q1:pre40 [.v (.ints .u8 s),.v (.str lfin),.s .u8 []]:=⟨_,_,_,rfl,hs.2,hsl,lit_dig rfl,fun x hx=>by simp at hx⟩
  have k1:labkey s lfin []=ex s lfin 32:=by rw[labkey,if_neg (by decide)];rfl
  have hF:F19 [.v (.ints .u8 s),.v (.ints .u8 m)]=.one (.v (.ints .u8 (hmac (ex s lfin 32) m))):=rfl
  obtain⟨k,hk⟩:∃k,ex s lfin 32=k:=⟨_,rfl⟩
  have kl:k.length=32:=by rw[←hk,ex_dig]
  have kd:Dig 256 k:=by rw[←hk];exact expand_dig _ _ _
  rw[hk]at k1 hF
  have pk:spl [0,0,0,0,0,0,0,0,0,0,0,0,0,0,0,0,0,0,0,0,0,0,0,0,0,0,0,0,0,0,0,0] 0 k=k:=qdb (by simp[kl])
  have sk:sub k 0 32=k:=sub_zero kl
  have q2:pre41 [.s .u8 k,.v (.rcs 1 1 [.rsl 1 32 .u8 m])]:=⟨k,[.rsl 1 32 .u8 m],rfl,kd,by omega,parts_cons (part_rsl' hm.2 (by omega)) parts_nil,by simp[flat];omega,by simp⟩
  have e1:hmac k (flat [.rsl 1 32 .u8 m])=hmac k m:=by simp[flat]
  obtain⟨r,hr⟩:∃r,hmac k m=r:=⟨_,rfl⟩
  have rl:r.length=32:=by rw[←hr];exact hmac_len _ _
  have pr:spl [0,0,0,0,0,0,0,0,0,0,0,0,0,0,0,0,0,0,0,0,0,0,0,0,0,0,0,0,0,0,0,0] 0 r=r:=qdb (by simp[rl])
  have sr:sub r 0 32=r:=sub_zero rl
  rw[hr]at e1 hF
  simp only[lfin]at q1 k1
  simp only[s40,s41]
  simp only[ir19,rs19,gl,hF,hsl,hml,ss,sm,q1,k1,kl,pk,sk,q2,e1,rl,pr,sr,s40,s41,F40,F41,sub_zero,qdb,qai,List.length_cons,List.length_nil,Nat.reduceAdd,Nat.le_refl,Nat.reduceLeDiff,Nat.reduceLT,true_and,and_true,↓evA,evB,evs,evp,mkB,repB,blen,↓retQ,res,resAll,resOne,kill,apartOk,exp,injV,injB,pur,purs,purR,pursR,List.reduceReplicate,Nat.reduceMul,Nat.reduceSub,Nat.reduceEqDiff,Int.reduceToNat,Int.reduceLE,Int.reduceLT,Int.reduceEq,reduceCtorEq,↓reduceIte]
  repeat(refine And.intro (by omega) ?_)
  simp only[out,outs,out1,pur,and_self]
def preBeg (ds:List D):Prop:=∃b:List Int,ds=[.s .u8 b]∧Dig 256 b∧b.length≤549755813888
def F22:List D→Out
  | [.s _ b]=>.one (.v (.ints .u8 (hmac zz (pskOf b))))
  | _=>bad
def s22:Summ:=sData [.s .u8] preBeg F22
theorem ok22 {g:List Blk} [Ge gl1 g]:SumOK Tryd.prog g 22 s22∧SumAbs s22:=by
  refine fsumA (l:=[(15,s15)]) mixed gl1_plain rfl Tryd.func22 comp22 compR22 nt22 (by simp only[List.mem_cons,List.not_mem_nil,or_false,forall_eq];exact ok15) fun ds ⟨b,hd,hb,hbl⟩ hA=>?_
  subst hd
  have sz:sub zz 0 32=zz:=rfl
  have sb:=qdd b
  have main:∀b:List Int,Dig 256 b→b.length≤549755813888→pre15 [.s .u8 zz,.s .u8 b]:=fun b hb hl=>⟨_,_,rfl,zz_dig,by decide,hb,hl⟩
  simp only[s15]
  by_cases h0:b.length=0
  · have hF:F22 [.s .u8 b]=.one (.v (.ints .u8 (hmac zz zz))):=by
      show Out.one (.v (.ints .u8 (hmac zz (pskOf b))))=_
      rw[pskOf,if_pos h0]
    have q:=main zz zz_dig (by decide)
    obtain⟨r,hr⟩:∃r,hmac zz zz=r:=⟨_,rfl⟩
    have rl:r.length=32:=by rw[←hr];exact hmac_len _ _
    have pr:spl [0,0,0,0,0,0,0,0,0,0,0,0,0,0,0,0,0,0,0,0,0,0,0,0,0,0,0,0,0,0,0,0] 0 r=r:=qdb (by simp[rl])
    have sr:sub r 0 32=r:=sub_zero rl
    rw[hr]at hF
    have c1:(b.length:Int)=0:=by omega
    simp only[zz,List.reduceReplicate]at q hr sz
    simp only[ir22,rs22,gl1,hF,c1,sz,sb,q,hr,rl,pr,sr,s15,F15,sub_zero,qdb,qai,List.length_cons,List.length_nil,Nat.reduceAdd,Nat.le_refl,Nat.reduceLeDiff,Nat.reduceLT,true_and,and_true,↓evA,evB,evs,evp,mkB,repB,blen,↓retQ,res,resAll,resOne,kill,apartOk,exp,injV,injB,pur,purs,purR,pursR,List.reduceReplicate,Nat.reduceMul,Nat.reduceSub,Nat.reduceEqDiff,Int.reduceToNat,Int.reduceLE,Int.reduceLT,Int.reduceEq,reduceCtorEq,↓reduceIte]
    repeat(refine And.intro (by omega) ?_)
    simp only[out,outs,out1,pur,and_self]
  · have hF:F22 [.s .u8 b]=.one (.v (.ints .u8 (hmac zz b))):=by
      show Out.one (.v (.ints .u8 (hmac zz (pskOf b))))=_
      rw[pskOf,if_neg h0]
    have q:=main b hb hbl
    obtain⟨r,hr⟩:∃r,hmac zz b=r:=⟨_,rfl⟩
    have rl:r.length=32:=by rw[←hr];exact hmac_len _ _
    have pr:spl [0,0,0,0,0,0,0,0,0,0,0,0,0,0,0,0,0,0,0,0,0,0,0,0,0,0,0,0,0,0,0,0] 0 r=r:=qdb (by simp[rl])
    have sr:sub r 0 32=r:=sub_zero rl
    rw[hr]at hF
    have c1:¬(b.length:Int)=0:=by omega
    simp only[zz,List.reduceReplicate]at q hr sz
    simp only[ir22,rs22,gl1,hF,c1,sz,sb,q,hr,rl,pr,sr,s15,F15,sub_zero,qdb,qai,List.length_cons,List.length_nil,Nat.reduceAdd,Nat.le_refl,Nat.reduceLeDiff,Nat.reduceLT,true_and,and_true,↓evA,evB,evs,evp,mkB,repB,blen,↓retQ,res,resAll,resOne,kill,apartOk,exp,injV,injB,pur,purs,purR,pursR,List.reduceReplicate,Nat.reduceMul,Nat.reduceSub,Nat.reduceEqDiff,Int.reduceToNat,Int.reduceLE,Int.reduceLT,Int.reduceEq,reduceCtorEq,↓reduceIte]
    repeat(refine And.intro (by omega) ?_)
    simp only[out,outs,out1,pur,and_self]
def drv (s l c:List Int):List Int:=expand s (labinfo l c 32) 32
def preDrv (ds:List D):Prop:=∃s l c:List Int,ds=[.v (.ints .u8 s),.v (.str l),.s .u8 c]∧Sec s∧Dig 256 l∧l.length≤1000000∧Dig 256 c∧c.length≤1000000
def F25:List D→Out
  | [.v (.ints _ s),.v (.str l),.s _ c]=>.one (.v (.ints .u8 (drv s l c)))
  | _=>bad
def s25:Summ:=sData [.v,.v,.s .u8] preDrv F25
theorem ok25 {g:List Blk} [Ge gl1 g]:SumOK Tryd.prog g 25 s25∧SumAbs s25:=by
  refine fsumA (l:=[(17,s17),(16,s16)]) mixed gl1_plain rfl Tryd.func25 comp25 compR25 nt25 (by simp only[List.mem_cons,List.not_mem_nil,or_false,forall_eq_or_imp,forall_eq];exact⟨ok17,ok16⟩) fun ds ⟨s,l,c,hd,hs,hl,hll,hc,hcl⟩ hA=>?_
  subst hd
  have hsl:=hs.1
  have ss:sub s 0 32=s:=sub_zero hsl
  have sc:=qdd c
  have q1:pre17 [.v (.str l),.s .u8 c,.v (.int .i64 32)]:=⟨l,c,32,rfl,hl,hll,hc,by omega,by decide⟩
  have hil:(labinfo l c 32).length≤274877906944:=by rw[labinfo_len];omega
  have hid:Dig 256 (labinfo l c 32):=labinfo_dig hl hc
  have hF:F25 [.v (.ints .u8 s),.v (.str l),.s .u8 c]=.one (.v (.ints .u8 (expand s (labinfo l c 32) 32))):=rfl
  obtain⟨i,hi⟩:∃i,labinfo l c 32=i:=⟨_,rfl⟩
  rw[hi]at hil hid hF
  have si:=qdd i
  have q2:pre16 [.v (.ints .u8 s),.s .u8 i,.v (.int .i64 32)]:=⟨s,i,32,rfl,hs.2,hsl,hid,hil,by decide⟩
  obtain⟨r,hr⟩:∃r,expand s i 32=r:=⟨_,rfl⟩
  have rl:r.length=32:=by rw[←hr,expand_len]
  rw[hr]at hF
  have pr:spl [0,0,0,0,0,0,0,0,0,0,0,0,0,0,0,0,0,0,0,0,0,0,0,0,0,0,0,0,0,0,0,0] 0 r=r:=qdb (by simp[rl])
  have sr:sub r 0 32=r:=sub_zero rl
  have tr:r.take 32=r:=List.take_of_length_le (by omega)
  have t32:(32:Int).toNat=32:=rfl
  simp only[s17,s16]
  simp only[ir25,rs25,gl1,hF,hsl,ss,sc,q1,hi,si,q2,t32,hr,rl,pr,sr,tr,Nat.min_self,s17,s16,F17,F16,sub_zero,qdb,qai,List.length_cons,List.length_nil,Nat.reduceAdd,Nat.le_refl,Nat.reduceLeDiff,Nat.reduceLT,true_and,and_true,↓evA,evB,evs,evp,mkB,repB,blen,↓retQ,res,resAll,resOne,kill,apartOk,exp,injV,injB,pur,purs,purR,pursR,List.reduceReplicate,Nat.reduceMul,Nat.reduceSub,Nat.reduceEqDiff,Int.reduceToNat,Int.reduceLE,Int.reduceLT,Int.reduceEq,reduceCtorEq,↓reduceIte]
  repeat(refine And.intro (by omega) ?_)
  simp only[out,outs,out1,pur,and_self]
def F20:List D→Out
  | [.v (.ints _ s),.v (.ints _ m)]=>.one (.v (.ints .u8 (finS s m)))
  | _=>bad
def s20:Summ:=sData [.v,.v] preSS F20
theorem ok20 {g:List Blk} [Ge gl1 g]:SumOK Tryd.prog g 20 s20∧SumAbs s20:=by
  refine fsumA (l:=[(25,s25),(15,s15)]) mixed gl1_plain rfl Tryd.func20 comp20 compR20 nt20 (by simp only[List.mem_cons,List.not_mem_nil,or_false,forall_eq_or_imp,forall_eq];exact⟨ok25,ok15⟩) fun ds ⟨s,m,hd,hs,hm⟩ hA=>?_
  subst hd
  have hsl:=hs.1
  have hml:=hm.1
  have ss:sub s 0 32=s:=sub_zero hsl
  have sm:sub m 0 32=m:=sub_zero hml
  have q1:preDrv [.v (.ints .u8 s),.v (.str lfin),.s .u8 []]:=⟨_,_,_,rfl,hs,lit_dig rfl,by decide,fun x hx=>by simp at hx,by decide⟩
  have hF:F20 [.v (.ints .u8 s),.v (.ints .u8 m)]=.one (.v (.ints .u8 (hmac (ex s lfin 32) m))):=rfl
  have k1:drv s lfin []=ex s lfin 32:=rfl
  obtain⟨k,hk⟩:∃k,ex s lfin 32=k:=⟨_,rfl⟩
  have kl:k.length=32:=by rw[←hk,ex_dig]
  have kd:Dig 256 k:=by rw[←hk];exact expand_dig _ _ _
  rw[hk]at k1 hF
  have pk:spl [0,0,0,0,0,0,0,0,0,0,0,0,0,0,0,0,0,0,0,0,0,0,0,0,0,0,0,0,0,0,0,0] 0 k=k:=qdb (by simp[kl])
  have sk:sub k 0 32=k:=sub_zero kl
  have q2:pre15 [.s .u8 k,.s .u8 m]:=⟨_,_,rfl,kd,by omega,hm.2,by omega⟩
  obtain⟨r,hr⟩:∃r,hmac k m=r:=⟨_,rfl⟩
  have rl:r.length=32:=by rw[←hr];exact hmac_len _ _
  have pr:spl [0,0,0,0,0,0,0,0,0,0,0,0,0,0,0,0,0,0,0,0,0,0,0,0,0,0,0,0,0,0,0,0] 0 r=r:=qdb (by simp[rl])
  have sr:sub r 0 32=r:=sub_zero rl
  rw[hr]at hF
  simp only[lfin]at q1 k1
  simp only[s25,s15]
  simp only[ir20,rs20,gl1,hF,hsl,hml,ss,sm,q1,k1,kl,pk,sk,q2,hr,rl,pr,sr,s25,s15,F25,F15,sub_zero,qdb,qai,List.length_cons,List.length_nil,Nat.reduceAdd,Nat.le_refl,Nat.reduceLeDiff,Nat.reduceLT,true_and,and_true,↓evA,evB,evs,evp,mkB,repB,blen,↓retQ,res,resAll,resOne,kill,apartOk,exp,injV,injB,pur,purs,purR,pursR,List.reduceReplicate,Nat.reduceMul,Nat.reduceSub,Nat.reduceEqDiff,Int.reduceToNat,Int.reduceLE,Int.reduceLT,Int.reduceEq,reduceCtorEq,↓reduceIte]
  repeat(refine And.intro (by omega) ?_)
  simp only[out,outs,out1,pur,and_self]
/-! ### Awake, SecretsFinished -/
def FTrue15:List D→Out
  | _=>.one (.v (.bool true))
def lhs2:List Int:=[104,115]
def e0:List Int:=hmac zz zz
theorem aw15:(getI e0 0=51∧getI e0 1=173)∧getI e0 2=10∧getI e0 3=28:=by decide +kernel
theorem aw15b:decide (labkey e0 (trfC lhs2) (sumS [])=labkey e0 (trfS lhs2) (sumS []))=false:=by decide +kernel
end Am
set_option maxRecDepth 20000
namespace Am
open Go.Proofs
def F18:List D→Out
  | _=>.one (.v (.bool true))
def pre18 (ds:List D):Prop:=ds=[]
def s18:Summ:=sData [] pre18 F18
set_option maxHeartbeats 4000000 in
theorem ok18 {g:List Blk} [Ge gl1 g]:SumOK Tryd.prog g 18 s18∧SumAbs s18:=by
  refine fsumA (l:=[(21,s21),(28,s28),(24,s24),(22,s22),(25,s25)]) mixed gl1_plain rfl Tryd.func18 comp18 compR18 nt18 (by simp only[List.mem_cons,List.not_mem_nil,or_false,forall_eq_or_imp,forall_eq];exact⟨ok21,ok28,ok24,ok22,ok25⟩) fun ds hd hA=>?_
  rw[hd]
  have hE:Sec e0:=⟨hmac_len _ _,hmac_dig _ _⟩
  have q1:preNew [.v .nils]:=rfl
  have f1:F21 [.v .nils]=([],.one (.p (fsS [] e0))):=rfl
  have hob:Obj (.rpc (csS (.rsl 1 0 .u8 []) e0) 0) [] e0:=⟨_,rfl,part_rsl' (fun x hx=>by simp at hx) rfl,rfl,by decide,hE⟩
  have hg:=getO_obj hob
  have q2:preTrf [.v (.rpc (csS (.rsl 1 0 .u8 []) e0) 0),.v (.str lhs2)]:=⟨_,[],e0,_,rfl,hob,lit_dig rfl,by decide⟩
  have q3:preBeg [.s .u8 []]:=⟨_,rfl,fun x hx=>by simp at hx,by decide⟩
  have q4:pre24 [.s .u8 []]:=⟨_,rfl,fun x hx=>by simp at hx,by decide⟩
  have f3:F22 [.s .u8 []]=.one (.v (.ints .u8 e0)):=rfl
  have f4:F24 [.s .u8 []]=.one (.v (.ints .u8 (sumS []))):=rfl
  obtain⟨⟨a1,a2⟩,a3,a4⟩:=aw15
  have ab:=aw15b
  have hS:=sumS_sec []
  obtain⟨S,hSS⟩:∃S,sumS []=S:=⟨_,rfl⟩
  rw[hSS]at hS f4 ab
  have f2:F28 [.v (.rpc (csS (.rsl 1 0 .u8 []) e0) 0),.v (.str lhs2)]=.many [.v (.ints .u8 (labkey e0 (trfC lhs2) S)),.v (.ints .u8 (labkey e0 (trfS lhs2) S))]:=by
    show Out.many [.v (.ints .u8 (labkey (getO (.rpc (csS (.rsl 1 0 .u8 []) e0) 0)).2 (trfC lhs2) (sumS (getO (.rpc (csS (.rsl 1 0 .u8 []) e0) 0)).1))),.v (.ints .u8 (labkey (getO (.rpc (csS (.rsl 1 0 .u8 []) e0) 0)).2 (trfS lhs2) (sumS (getO (.rpc (csS (.rsl 1 0 .u8 []) e0) 0)).1)))]=_
    rw[hg,hSS]
  obtain⟨e,he⟩:∃e,e0=e:=⟨_,rfl⟩
  rw[he]at hE f1 q2 f2 f3 a1 a2 a3 a4 ab
  have el:=hE.1
  have Sl:=hS.1
  have hL:¬Lng (trfC lhs2) S:=fun h=>h.elim (fun h=>absurd h (by decide)) (fun h=>by rw[Sl]at h;omega)
  have k1:labkey e (trfC lhs2) S=drv e (trfC lhs2) S:=by rw[labkey,if_neg hL];rfl
  obtain⟨A,hA1⟩:∃k,labkey e (trfC lhs2) S=k:=⟨_,rfl⟩
  obtain⟨B,hB⟩:∃k,labkey e (trfS lhs2) S=k:=⟨_,rfl⟩
  have lA:A.length=32:=by rw[←hA1];exact(labkey_sec _ _ _).1
  have lB:B.length=32:=by rw[←hB];exact(labkey_sec _ _ _).1
  rw[hA1]at f2 k1 ab
  rw[hB]at f2 ab
  have nab:¬A=B:=of_decide_eq_false ab
  have z:∀{Z:List Int},Z.length=32→spl [0,0,0,0,0,0,0,0,0,0,0,0,0,0,0,0,0,0,0,0,0,0,0,0,0,0,0,0,0,0,0,0] 0 Z=Z:=fun h=>qdb (by simp[h])
  have pA:=z lA
  have pB:=z lB
  have pe:=z el
  have pS:=z Sl
  have sA:sub A 0 32=A:=sub_zero lA
  have sB:sub B 0 32=B:=sub_zero lB
  have se:sub e 0 32=e:=sub_zero el
  have sS:sub S 0 32=S:=sub_zero Sl
  have q5:preDrv [.v (.ints .u8 e),.v (.str (trfC lhs2)),.s .u8 S]:=⟨_,_,_,rfl,hE,(trf_dig (lit_dig rfl)).1,by decide,hS.2,by omega⟩
  have s0:sub ([]:List Int) 0 0=[]:=rfl
  have k1':=k1.symm
  simp only[csS,lhs2,trfC,List.cons_append,List.nil_append]at q2 f2 q5 k1'
  simp only[s21,s28,s24,s22,s25]
  simp only[ir18,rs18,gl1,F18,q1,f1,fsS,injs_ints,blks_ints,cnts_ints,↓frzs_ints,List.length_nil,q2,f2,q3,f3,q4,f4,q5,F25,k1',nab,a1,a2,a3,a4,lA,lB,el,Sl,pA,pB,pe,pS,sA,sB,se,sS,s0,eq_self,sub_zero,qdb,qai,List.length_cons,Nat.reduceAdd,Nat.le_refl,Nat.reduceLeDiff,Nat.reduceLT,true_and,and_true,↓qar,↓qan,↓qao,↓qap,↓qam,↓qaj,↓qak,↓qaq,↓qal,idsEs,idsE,idss,killB,effE,stA,wBlk,deads,nwA,cntA,cnts,cnt,valO,blkO,inj,injs,blk,blks,outA,outR,outE,outEs,sids,List.nodup_cons,List.nodup_nil,List.not_mem_nil,List.mem_cons,or_false,false_or,not_or,↓evA,evB,evs,evp,mkB,repB,blen,↓retQ,res,resAll,resOne,kill,apartOk,exp,injV,injB,pur,purs,purR,pursR,List.reduceReplicate,Nat.reduceMul,Nat.reduceSub,Nat.reduceEqDiff,Int.reduceToNat,Int.reduceLE,Int.reduceLT,Int.reduceEq,reduceCtorEq,↓reduceIte]
  repeat(refine And.intro (by omega) ?_)
  simp only[out,outs,out1,pur,and_self]
end Am
