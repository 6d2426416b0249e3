/-
Working texts: contracts of functions, and the numbers behind them.
-/
import Derived.Test.YtcefobjfkmfmiaaDoorSeE
set_option linter.unusedSimpArgs false
set_option linter.unusedVariables false
set_option linter.unusedSectionVars false
set_option maxRecDepth 20000
namespace Am
open Go.Proofs
/-! ### The reference's sums of what is only read -/
def preMac2 (ds:List D):Prop:=∃(k m:List Int),ds=[.s .u8 k,.v (.rsl 1 m.length .u8 m)]∧Dig 256 k∧k.length≤549755813888∧Dig 256 m∧m.length≤549755813888
def FMac2:List D→Out
  | [.s _ k,.v (.rsl _ _ _ m)]=>.one (.v (.ints .u8 (hmac k m)))
  | _=>bad
def sMac2:Summ:=sData [.s .u8,.r] preMac2 FMac2
set_option maxHeartbeats 2000000 in
theorem okMac2 {g:List Blk} [Ge gl1 g]:SumOK Tryd.prog g 15 sMac2∧SumAbs sMac2:=by
  refine fsumA (l:=[(24,s24)]) mixed gl1_plain rfl Tryd.func15 comp15 compR15 nt15 (by simp only[List.mem_cons,List.not_mem_nil,or_false,forall_eq];exact ok24) fun ds ⟨k,m,hd,hk,hkl,hm,hml⟩ hA=>?_
  subst hd
  simp only[s24]
  have sk:sub k 0 k.length=k:=sub_zero rfl
  have sm:sub m 0 m.length=m:=sub_zero rfl
  obtain⟨kp,hkp⟩:∃kp,kpad k=kp:=⟨_,rfl⟩
  have hkpl:kp.length=64:=by rw[←hkp,kpad_len]
  obtain⟨A,hA'⟩:∃A,(kp.map fun x=>bXor .u8 x 54)=A:=⟨_,rfl⟩
  obtain⟨B,hB'⟩:∃B,(kp.map fun x=>bXor .u8 x 92)=B:=⟨_,rfl⟩
  have hAl:A.length=64:=by rw[←hA'];simpa using hkpl
  have hBl:B.length=64:=by rw[←hB'];simpa using hkpl
  have hAd:Dig 256 A:=by rw[←hA'];exact bXor8_dig _
  have hBd:Dig 256 B:=by rw[←hB'];exact bXor8_dig _
  have hAt:∀i,i<64→A.take (i+1)=A.take i++[bXor .u8 (getI kp i) 54]:=fun i hi=>by rw[←hA',map_take (by omega)]
  have hBt:∀i,i<64→B.take (i+1)=B.take i++[bXor .u8 (getI kp i) 92]:=fun i hi=>by rw[←hB',map_take (by omega)]
  obtain⟨h1,hh1⟩:∃h1,sum256 (padded (A++m) 64)=h1:=⟨_,rfl⟩
  have hh1l:h1.length=32:=by rw[←hh1,sum256_len]
  have hh1d:Dig 256 h1:=by rw[←hh1];exact sum256_dig _
  obtain⟨h2,hh2⟩:∃h2,sum256 (padded (B++h1) 64)=h2:=⟨_,rfl⟩
  have hh2l:h2.length=32:=by rw[←hh2,sum256_len]
  have hres:hmac k m=h2:=by rw[hmac,hkp,hA',hh1,hB',hh2]
  have q1:pre24 [.s .u8 (A++m)]:=⟨_,rfl,hAd.append hm,by rw[List.length_append];omega⟩
  have q2:pre24 [.s .u8 (B++h1)]:=⟨_,rfl,hBd.append hh1d,by rw[List.length_append];omega⟩
  have q0:pre24 [.s .u8 k]:=⟨_,rfl,hk,by omega⟩
  have s1:sub (A++m) 0 (64+m.length)=A++m:=sub_zero (by rw[List.length_append,hAl])
  have s2:sub (B++h1) 0 (64+32)=B++h1:=sub_zero (by rw[List.length_append,hBl,hh1l])
  simp only[Nat.reduceAdd]at s2
  have s3:sub h1 0 32=h1:=sub_zero hh1l
  have s4:sub h2 0 32=h2:=sub_zero hh2l
  have hlA:A.length+m.length=64+m.length:=by omega
  have tA:A.take 64=A:=List.take_of_length_le (by omega)
  have tB:B.take 64=B:=List.take_of_length_le (by omega)
  have w01:Go.IntKind.i64.wrap (0+1)=1:=by decide
  obtain⟨s0,hs0⟩:∃s0,sum256 (padded k 64)=s0:=⟨_,rfl⟩
  have hs0l:s0.length=32:=by rw[←hs0,sum256_len]
  by_cases hlong:64<k.length
  · have hc:(64:Int)<k.length:=by omega
    have hk0:key0 k=s0:=by rw[key0,if_pos hlong,hs0]
    have hkl0:s0.length=32:=hs0l
    simp only[ir15,rs15,gl1,FMac2,hc,sk,q0,hs0,hs0l,s24,F24,sub_zero,qdb,qai,List.length_cons,List.length_nil,Nat.reduceAdd,Nat.le_refl,Nat.reduceLeDiff,Nat.reduceLT,true_and,and_true,↓evA,evB,evs,evp,mkB,repB,blen,↓retQ,res,resAll,resOne,kill,apartOk,exp,injV,injB,pur,purs,purR,pursR,List.reduceReplicate,Nat.reduceMul,Nat.reduceSub,Nat.reduceEqDiff,Int.reduceToNat,Int.reduceLE,Int.reduceLT,Int.reduceEq,reduceCtorEq,↓reduceIte]
    refine awp_loopA (n:=47) hA [0,1,4,6,7,8] (by decide +kernel) (fun i:Nat=>[.slice 6 0 1 32 32,.rsl 1 m.length .u8 m,.ptr 5 0,ap 7 i,ap 8 i,.int .i64 i])
      (fun i=>[.ints true .u64 roots,.ints true .u64 roots,.ints true .u64 seconds,.dead,.ints true .u8 k,.ints false .u8 (List.replicate 32 0),.ints false .u8 s0]++(apB .u8 (A.take i)++apB .u8 (B.take i))) (fun i=>i≤64) (fun i=>64-i) 0 ?_ (by omega) ?_
    · refine Hd.same ?_
      simp only[ap_0,List.take_zero,apB_nil,↓evA,evB,evs,evp,mkB,repB,blen,↓retQ,res,resAll,resOne,kill,apartOk,exp,injV,injB,pur,purs,purR,pursR,List.reduceReplicate,Nat.reduceAdd,Nat.reduceMul,Nat.reduceSub,Nat.reduceEqDiff,Nat.reduceLT,Int.reduceToNat,Int.reduceLE,Int.reduceLT,Int.reduceEq,reduceCtorEq,↓reduceIte]
    intro i hi K hK
    have w1:Go.IntKind.i64.wrap ((i:Int)+1)=((i+1:Nat):Int):=by rw[wrap_i64];omega
    by_cases h64:i<64
    · have c1:(i:Int)<64:=by omega
      have a1:=hAt i h64
      have b1:=hBt i h64
      have la:(A.take i).length=i:=by rw[List.length_take];omega
      have lb:(B.take i).length=i:=by rw[List.length_take];omega
      have pA:apB .u8 (A.take (i+1))=[.ints false .u8 (A.take (i+1))]:=apB_pos (by rw[List.length_take];omega)
      have pB:apB .u8 (B.take (i+1))=[.ints false .u8 (B.take (i+1))]:=apB_pos (by rw[List.length_take];omega)
      rw[a1]at pA
      rw[b1]at pB
      have hg:getI kp i=if i<s0.length then getI s0 i else 0:=by rw[←hkp,kpad_get,hk0]
      by_cases hin:i<s0.length
      all_goals
        first
          | (have c2:(i:Int)<(32:Int):=by omega
             rw[if_pos hin]at hg)
          | (have c2:¬(i:Int)<(32:Int):=by omega
             rw[if_neg hin]at hg)
        rw[hg]at a1 b1 pA pB
        by_cases h0:i=0
        · have hA0:ap 7 i=.nils:=by rw[h0,ap_0]
          have hB0:ap 8 i=.nils:=by rw[h0,ap_0]
          have ta0:A.take i=[]:=by rw[h0,List.take_zero]
          have tb0:B.take i=[]:=by rw[h0,List.take_zero]
          have hA1:ap 7 (i+1)=.slice 7 0 1 1 1:=by rw[h0,ap_s]
          have hB1:ap 8 (i+1)=.slice 8 0 1 1 1:=by rw[h0,ap_s]
          rw[ta0,List.nil_append]at a1 pA
          rw[tb0,List.nil_append]at b1 pB
          simp only[c1,c2,w1,hA0,hB0,ta0,tb0,apB_nil,sub_zero,qdb,qai,List.length_cons,List.length_nil,Nat.reduceAdd,Nat.le_refl,Nat.reduceLeDiff,Nat.reduceLT,true_and,and_true,↓evA,evB,evs,evp,mkB,repB,blen,↓retQ,res,resAll,resOne,kill,apartOk,exp,injV,injB,pur,purs,purR,pursR,List.reduceReplicate,Nat.reduceMul,Nat.reduceSub,Nat.reduceEqDiff,Int.reduceToNat,Int.reduceLE,Int.reduceLT,Int.reduceEq,reduceCtorEq,↓reduceIte]
          repeat(refine And.intro (by omega) ?_)
          refine⟨i+1,hK _ (by omega) (by omega),Hd.of [0,1,2,3,4,5,6,8,10] (by decide) (by decide) (by simp) ?_⟩
          simp only[hA1,hB1,a1,b1,pA,pB,hg,gc,gcVs,gcV,posOf,gcH,gcB,Option.map_some,Option.map_none,List.replicate_zero,List.drop_zero,↓evA,evB,evs,evp,mkB,repB,blen,↓retQ,res,resAll,resOne,kill,apartOk,exp,injV,injB,pur,purs,purR,pursR,List.reduceReplicate,Nat.reduceAdd,Nat.reduceMul,Nat.reduceSub,Nat.reduceEqDiff,Nat.reduceLT,Int.reduceToNat,Int.reduceLE,Int.reduceLT,Int.reduceEq,reduceCtorEq,↓reduceIte]
        · obtain⟨j,rfl⟩:∃j,i=j+1:=⟨i-1,by omega⟩
          have pA0:=apB_pos (k:=.u8) (xs:=A.take (j+1)) (by omega)
          have pB0:=apB_pos (k:=.u8) (xs:=B.take (j+1)) (by omega)
          simp only[c1,c2,w1,ap_s,pA0,pB0,la,lb,sub_zero,qdb,qai,List.length_cons,List.length_nil,Nat.reduceAdd,Nat.le_refl,Nat.reduceLeDiff,Nat.reduceLT,true_and,and_true,↓evA,evB,evs,evp,mkB,repB,blen,↓retQ,res,resAll,resOne,kill,apartOk,exp,injV,injB,pur,purs,purR,pursR,List.reduceReplicate,Nat.reduceMul,Nat.reduceSub,Nat.reduceEqDiff,Int.reduceToNat,Int.reduceLE,Int.reduceLT,Int.reduceEq,reduceCtorEq,↓reduceIte]
          repeat(refine And.intro (by omega) ?_)
          refine⟨j+1+1,hK _ (by omega) (by omega),Hd.of [0,1,2,3,4,5,6,10,12] (by decide) (by decide) (by simp) ?_⟩
          simp only[ap_s,a1,b1,pA,pB,hg,gc,gcVs,gcV,posOf,gcH,gcB,Option.map_some,Option.map_none,List.replicate_zero,List.drop_zero,↓evA,evB,evs,evp,mkB,repB,blen,↓retQ,res,resAll,resOne,kill,apartOk,exp,injV,injB,pur,purs,purR,pursR,List.reduceReplicate,Nat.reduceAdd,Nat.reduceMul,Nat.reduceSub,Nat.reduceEqDiff,Nat.reduceLT,Int.reduceToNat,Int.reduceLE,Int.reduceLT,Int.reduceEq,reduceCtorEq,↓reduceIte]
    have hi64:i=64:=by omega
    subst hi64
    have c1:¬((64:Nat):Int)<64:=by omega
    have pA:=apB_pos (k:=.u8) (xs:=A) (by omega)
    have pB:=apB_pos (k:=.u8) (xs:=B) (by omega)
    simp only[c1,tA,tB,pA,pB,ap_s (n:=63),hAl,hBl,hlA,sm,s1,s2,s3,s4,q1,q2,hh1,hh1l,hh2,hh2l,hres,s24,F24,sub_zero,qdb,qai,List.length_cons,List.length_nil,Nat.reduceAdd,Nat.le_refl,Nat.reduceLeDiff,Nat.reduceLT,true_and,and_true,↓evA,evB,evs,evp,mkB,repB,blen,↓retQ,res,resAll,resOne,kill,apartOk,exp,injV,injB,pur,purs,purR,pursR,List.reduceReplicate,Nat.reduceMul,Nat.reduceSub,Nat.reduceEqDiff,Int.reduceToNat,Int.reduceLE,Int.reduceLT,Int.reduceEq,reduceCtorEq,↓reduceIte]
    repeat(refine And.intro (by omega) ?_)
    exact out_ints rfl
  · have hc:¬(64:Int)<k.length:=by omega
    have hk0:key0 k=k:=by rw[key0,if_neg hlong]
    have hkl0:k.length=k.length:=rfl
    simp only[ir15,rs15,gl1,FMac2,hc,sk,q0,hs0,s24,F24,sub_zero,qdb,qai,List.length_cons,List.length_nil,Nat.reduceAdd,Nat.le_refl,Nat.reduceLeDiff,Nat.reduceLT,true_and,and_true,↓evA,evB,evs,evp,mkB,repB,blen,↓retQ,res,resAll,resOne,kill,apartOk,exp,injV,injB,pur,purs,purR,pursR,List.reduceReplicate,Nat.reduceMul,Nat.reduceSub,Nat.reduceEqDiff,Int.reduceToNat,Int.reduceLE,Int.reduceLT,Int.reduceEq,reduceCtorEq,↓reduceIte]
    refine awp_loopA (n:=47) hA [0,1,4,6,7,8] (by decide +kernel) (fun i:Nat=>[.slice 4 0 1 k.length k.length,.rsl 1 m.length .u8 m,.ptr 5 0,ap 6 i,ap 7 i,.int .i64 i])
      (fun i=>[.ints true .u64 roots,.ints true .u64 roots,.ints true .u64 seconds,.dead,.ints true .u8 k,.ints false .u8 (List.replicate 32 0)]++(apB .u8 (A.take i)++apB .u8 (B.take i))) (fun i=>i≤64) (fun i=>64-i) 0 ?_ (by omega) ?_
    · refine Hd.same ?_
      simp only[ap_0,List.take_zero,apB_nil,↓evA,evB,evs,evp,mkB,repB,blen,↓retQ,res,resAll,resOne,kill,apartOk,exp,injV,injB,pur,purs,purR,pursR,List.reduceReplicate,Nat.reduceAdd,Nat.reduceMul,Nat.reduceSub,Nat.reduceEqDiff,Nat.reduceLT,Int.reduceToNat,Int.reduceLE,Int.reduceLT,Int.reduceEq,reduceCtorEq,↓reduceIte]
    intro i hi K hK
    have w1:Go.IntKind.i64.wrap ((i:Int)+1)=((i+1:Nat):Int):=by rw[wrap_i64];omega
    by_cases h64:i<64
    · have c1:(i:Int)<64:=by omega
      have a1:=hAt i h64
      have b1:=hBt i h64
      have la:(A.take i).length=i:=by rw[List.length_take];omega
      have lb:(B.take i).length=i:=by rw[List.length_take];omega
      have pA:apB .u8 (A.take (i+1))=[.ints false .u8 (A.take (i+1))]:=apB_pos (by rw[List.length_take];omega)
      have pB:apB .u8 (B.take (i+1))=[.ints false .u8 (B.take (i+1))]:=apB_pos (by rw[List.length_take];omega)
      rw[a1]at pA
      rw[b1]at pB
      have hg:getI kp i=if i<k.length then getI k i else 0:=by rw[←hkp,kpad_get,hk0]
      by_cases hin:i<k.length
      all_goals
        first
          | (have c2:(i:Int)<(k.length:Int):=by omega
             rw[if_pos hin]at hg)
          | (have c2:¬(i:Int)<(k.length:Int):=by omega
             rw[if_neg hin]at hg)
        rw[hg]at a1 b1 pA pB
        by_cases h0:i=0
        · have hA0:ap 6 i=.nils:=by rw[h0,ap_0]
          have hB0:ap 7 i=.nils:=by rw[h0,ap_0]
          have ta0:A.take i=[]:=by rw[h0,List.take_zero]
          have tb0:B.take i=[]:=by rw[h0,List.take_zero]
          have hA1:ap 6 (i+1)=.slice 6 0 1 1 1:=by rw[h0,ap_s]
          have hB1:ap 7 (i+1)=.slice 7 0 1 1 1:=by rw[h0,ap_s]
          rw[ta0,List.nil_append]at a1 pA
          rw[tb0,List.nil_append]at b1 pB
          simp only[c1,c2,w1,hA0,hB0,ta0,tb0,apB_nil,sub_zero,qdb,qai,List.length_cons,List.length_nil,Nat.reduceAdd,Nat.le_refl,Nat.reduceLeDiff,Nat.reduceLT,true_and,and_true,↓evA,evB,evs,evp,mkB,repB,blen,↓retQ,res,resAll,resOne,kill,apartOk,exp,injV,injB,pur,purs,purR,pursR,List.reduceReplicate,Nat.reduceMul,Nat.reduceSub,Nat.reduceEqDiff,Int.reduceToNat,Int.reduceLE,Int.reduceLT,Int.reduceEq,reduceCtorEq,↓reduceIte]
          repeat(refine And.intro (by omega) ?_)
          refine⟨i+1,hK _ (by omega) (by omega),Hd.of [0,1,2,3,4,5,7,9] (by decide) (by decide) (by simp) ?_⟩
          simp only[hA1,hB1,a1,b1,pA,pB,hg,gc,gcVs,gcV,posOf,gcH,gcB,Option.map_some,Option.map_none,List.replicate_zero,List.drop_zero,↓evA,evB,evs,evp,mkB,repB,blen,↓retQ,res,resAll,resOne,kill,apartOk,exp,injV,injB,pur,purs,purR,pursR,List.reduceReplicate,Nat.reduceAdd,Nat.reduceMul,Nat.reduceSub,Nat.reduceEqDiff,Nat.reduceLT,Int.reduceToNat,Int.reduceLE,Int.reduceLT,Int.reduceEq,reduceCtorEq,↓reduceIte]
        · obtain⟨j,rfl⟩:∃j,i=j+1:=⟨i-1,by omega⟩
          have pA0:=apB_pos (k:=.u8) (xs:=A.take (j+1)) (by omega)
          have pB0:=apB_pos (k:=.u8) (xs:=B.take (j+1)) (by omega)
          simp only[c1,c2,w1,ap_s,pA0,pB0,la,lb,sub_zero,qdb,qai,List.length_cons,List.length_nil,Nat.reduceAdd,Nat.le_refl,Nat.reduceLeDiff,Nat.reduceLT,true_and,and_true,↓evA,evB,evs,evp,mkB,repB,blen,↓retQ,res,resAll,resOne,kill,apartOk,exp,injV,injB,pur,purs,purR,pursR,List.reduceReplicate,Nat.reduceMul,Nat.reduceSub,Nat.reduceEqDiff,Int.reduceToNat,Int.reduceLE,Int.reduceLT,Int.reduceEq,reduceCtorEq,↓reduceIte]
          repeat(refine And.intro (by omega) ?_)
          refine⟨j+1+1,hK _ (by omega) (by omega),Hd.of [0,1,2,3,4,5,9,11] (by decide) (by decide) (by simp) ?_⟩
          simp only[ap_s,a1,b1,pA,pB,hg,gc,gcVs,gcV,posOf,gcH,gcB,Option.map_some,Option.map_none,List.replicate_zero,List.drop_zero,↓evA,evB,evs,evp,mkB,repB,blen,↓retQ,res,resAll,resOne,kill,apartOk,exp,injV,injB,pur,purs,purR,pursR,List.reduceReplicate,Nat.reduceAdd,Nat.reduceMul,Nat.reduceSub,Nat.reduceEqDiff,Nat.reduceLT,Int.reduceToNat,Int.reduceLE,Int.reduceLT,Int.reduceEq,reduceCtorEq,↓reduceIte]
    have hi64:i=64:=by omega
    subst hi64
    have c1:¬((64:Nat):Int)<64:=by omega
    have pA:=apB_pos (k:=.u8) (xs:=A) (by omega)
    have pB:=apB_pos (k:=.u8) (xs:=B) (by omega)
    simp only[c1,tA,tB,pA,pB,ap_s (n:=63),hAl,hBl,hlA,sm,s1,s2,s3,s4,q1,q2,hh1,hh1l,hh2,hh2l,hres,s24,F24,sub_zero,qdb,qai,List.length_cons,List.length_nil,Nat.reduceAdd,Nat.le_refl,Nat.reduceLeDiff,Nat.reduceLT,true_and,and_true,↓evA,evB,evs,evp,mkB,repB,blen,↓retQ,res,resAll,resOne,kill,apartOk,exp,injV,injB,pur,purs,purR,pursR,List.reduceReplicate,Nat.reduceMul,Nat.reduceSub,Nat.reduceEqDiff,Int.reduceToNat,Int.reduceLE,Int.reduceLT,Int.reduceEq,reduceCtorEq,↓reduceIte]
    repeat(refine And.intro (by omega) ?_)
    exact out_ints rfl
def preBeg2 (ds:List D):Prop:=∃b:List Int,ds=[.v (.rsl 1 b.length .u8 b)]∧Dig 256 b∧b.length≤549755813888
def FBeg2:List D→Out
  | [.v (.rsl _ _ _ b)]=>.one (.v (.ints .u8 (hmac zz (pskOf b))))
  | _=>bad
def sBeg2:Summ:=sData [.r] preBeg2 FBeg2
theorem okBeg2 {g:List Blk} [Ge gl1 g]:SumOK Tryd.prog g 22 sBeg2∧SumAbs sBeg2:=by
  refine fsumA (l:=[(15,sMac2)]) mixed gl1_plain rfl Tryd.func22 comp22 compR22 nt22 (by simp only[List.mem_cons,List.not_mem_nil,or_false,forall_eq];exact okMac2) fun ds ⟨b,hd,hb,hbl⟩ hA=>?_
  subst hd
  have sz:sub zz 0 32=zz:=rfl
  have sb:=qdd b
  have main:∀b:List Int,Dig 256 b→b.length≤549755813888→preMac2 [.s .u8 zz,.v (.rsl 1 b.length .u8 b)]:=fun b hb hl=>⟨_,_,rfl,zz_dig,by decide,hb,hl⟩
  simp only[sMac2]
  by_cases h0:b.length=0
  · have hF:FBeg2 [.v (.rsl 1 b.length .u8 b)]=.one (.v (.ints .u8 (hmac zz zz))):=by
      show Out.one (.v (.ints .u8 (hmac zz (pskOf b))))=_
      rw[pskOf,if_pos h0]
    have q:=main zz zz_dig (by decide)
    rw[show zz.length=32 from rfl]at q
    obtain⟨r,hr⟩:∃r,hmac zz zz=r:=⟨_,rfl⟩
    have rl:r.length=32:=by rw[←hr];exact hmac_len _ _
    have pr:spl [0,0,0,0,0,0,0,0,0,0,0,0,0,0,0,0,0,0,0,0,0,0,0,0,0,0,0,0,0,0,0,0] 0 r=r:=qdb (by simp[rl])
    have sr:sub r 0 32=r:=sub_zero rl
    rw[hr]at hF
    have c1:(b.length:Int)=0:=by omega
    simp only[zz,List.reduceReplicate]at q hr sz
    simp only[ir22,rs22,gl1,hF,c1,sz,sb,q,hr,rl,pr,sr,FMac2,sub_zero,qdb,qai,List.length_cons,List.length_nil,Nat.reduceAdd,Nat.le_refl,Nat.reduceLeDiff,Nat.reduceLT,true_and,and_true,↓evA,evB,evs,evp,mkB,repB,blen,↓retQ,res,resAll,resOne,kill,apartOk,exp,injV,injB,pur,purs,purR,pursR,List.reduceReplicate,Nat.reduceMul,Nat.reduceSub,Nat.reduceEqDiff,Int.reduceToNat,Int.reduceLE,Int.reduceLT,Int.reduceEq,reduceCtorEq,↓reduceIte]
    repeat(refine And.intro (by omega) ?_)
    simp only[out,outs,out1,pur,and_self]
  · have hF:FBeg2 [.v (.rsl 1 b.length .u8 b)]=.one (.v (.ints .u8 (hmac zz b))):=by
      show Out.one (.v (.ints .u8 (hmac zz (pskOf b))))=_
      rw[pskOf,if_neg h0]
    have q:=main b hb hbl
    obtain⟨r,hr⟩:∃r,hmac zz b=r:=⟨_,rfl⟩
    have rl:r.length=32:=by rw[←hr];exact hmac_len _ _
    have pr:spl [0,0,0,0,0,0,0,0,0,0,0,0,0,0,0,0,0,0,0,0,0,0,0,0,0,0,0,0,0,0,0,0] 0 r=r:=qdb (by simp[rl])
    have sr:sub r 0 32=r:=sub_zero rl
    rw[hr]at hF
    have c1:¬(b.length:Int)=0:=by omega
    simp only[zz,List.reduceReplicate]at q hr sz
    simp only[ir22,rs22,gl1,hF,c1,sz,sb,q,hr,rl,pr,sr,FMac2,sub_zero,qdb,qai,List.length_cons,List.length_nil,Nat.reduceAdd,Nat.le_refl,Nat.reduceLeDiff,Nat.reduceLT,true_and,and_true,↓evA,evB,evs,evp,mkB,repB,blen,↓retQ,res,resAll,resOne,kill,apartOk,exp,injV,injB,pur,purs,purR,pursR,List.reduceReplicate,Nat.reduceMul,Nat.reduceSub,Nat.reduceEqDiff,Int.reduceToNat,Int.reduceLE,Int.reduceLT,Int.reduceEq,reduceCtorEq,↓reduceIte]
    repeat(refine And.intro (by omega) ?_)
    simp only[out,outs,out1,pur,and_self]
end Am
