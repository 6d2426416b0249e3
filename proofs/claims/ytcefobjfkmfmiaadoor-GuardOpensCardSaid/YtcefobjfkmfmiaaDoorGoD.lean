/-
Working texts: contracts of functions, and the numbers behind them.
-/
import Derived.Test.YtcefobjfkmfmiaaDoorGkA
import Derived.Test.YtcefobjfkmfmiaaDoorGoB
import Derived.Test.YtcefobjfkmfmiaaDoorGcM
set_option linter.unusedSimpArgs false
set_option linter.unusedVariables false
set_option linter.unusedSectionVars false
set_option maxRecDepth 20000
namespace Am
open Go.Proofs
/-! ### What the document opens -/
def preOpd (ds:List D):Prop:=∃(k b:List Int) (a e:Int) (x:Nat),ds=[.v (.ints .u8 k),.s .u8 b,.v (.int .i64 a),.v (.int .i64 e),.v (.int .u64 (x:Int))] ∧
  K44 k∧Dig 256 b∧b.length≤900∧x<4611686018427387904
def s37:Summ:=sData [.v,.s .u8,.v,.v,.v] preOpd FOp
set_option maxHeartbeats 16000000 in
theorem ok37 {g:List Blk} [Ge gl g]:SumOK Tryd.prog g 37 s37∧SumAbs s37:=by
  refine fsumA (l:=[(54,s54),(56,s56),(59,s59),(55,s55)]) mixed gl_plain rfl Tryd.func37 comp37 compR37 nt37 (by simp only[List.mem_cons,List.not_mem_nil,or_false,forall_eq_or_imp,forall_eq];exact⟨ok54,ok56,ok59,ok55⟩) fun ds ⟨k,b,a,e,x,hd,hk,hb,hbl,hx⟩ hA=>?_
  subst hd
  have hkl:=hk.1
  have hF:FOp [.v (.ints .u8 k),.s .u8 b,.v (.int .i64 a),.v (.int .i64 e),.v (.int .u64 (x:Int))]=.many [.v (.int .u64 ((opnR k b a e x).1:Nat)),.s .u8 (opnR k b a e x).2.1,.v (.int .i64 (opnR k b a e x).2.2)]:=rfl
  have bad:∀h:opBad b.length a e=true,FOp [.v (.ints .u8 k),.s .u8 b,.v (.int .i64 a),.v (.int .i64 e),.v (.int .u64 (x:Int))]=.many [.v (.int .u64 0),.s .u8 [],.v (.int .i64 3)]:=fun h=>by
    rw[hF,opnR,if_pos h];rfl
  by_cases c1:a<1
  · have hF:=bad (by simp[opBad,c1])
    simp only[ir37,rs37,gl,hF,c1,sub_zero,qdb,qai,List.length_cons,List.length_nil,Nat.reduceAdd,Nat.le_refl,Nat.reduceLeDiff,Nat.reduceLT,true_and,and_true,↓evA,evB,evs,evp,mkB,repB,blen,↓retQ,res,resAll,resOne,kill,apartOk,exp,injV,injB,pur,purs,purR,pursR,List.reduceReplicate,Nat.reduceMul,Nat.reduceSub,Nat.reduceEqDiff,Int.reduceToNat,Int.reduceLE,Int.reduceLT,Int.reduceEq,reduceCtorEq,↓reduceIte]
    simp[out,outs,out1,pur]
  by_cases c2:(b.length:Int)<e
  · have hF:=bad (by simp[opBad,c2])
    simp only[ir37,rs37,gl,hF,c1,c2,sub_zero,qdb,qai,List.length_cons,List.length_nil,Nat.reduceAdd,Nat.le_refl,Nat.reduceLeDiff,Nat.reduceLT,true_and,and_true,↓evA,evB,evs,evp,mkB,repB,blen,↓retQ,res,resAll,resOne,kill,apartOk,exp,injV,injB,pur,purs,purR,pursR,List.reduceReplicate,Nat.reduceMul,Nat.reduceSub,Nat.reduceEqDiff,Int.reduceToNat,Int.reduceLE,Int.reduceLT,Int.reduceEq,reduceCtorEq,↓reduceIte]
    simp[out,outs,out1,pur]
  by_cases c3:e<a
  · have hF:=bad (by simp[opBad,c3])
    simp only[ir37,rs37,gl,hF,c1,c2,c3,sub_zero,qdb,qai,List.length_cons,List.length_nil,Nat.reduceAdd,Nat.le_refl,Nat.reduceLeDiff,Nat.reduceLT,true_and,and_true,↓evA,evB,evs,evp,mkB,repB,blen,↓retQ,res,resAll,resOne,kill,apartOk,exp,injV,injB,pur,purs,purR,pursR,List.reduceReplicate,Nat.reduceMul,Nat.reduceSub,Nat.reduceEqDiff,Int.reduceToNat,Int.reduceLE,Int.reduceLT,Int.reduceEq,reduceCtorEq,↓reduceIte]
    simp[out,outs,out1,pur]
  have we:Go.IntKind.i64.wrap (e-a)=e-a:=by rw[wrap_i64];omega
  by_cases c4:e-a<20
  · have hF:=bad (by simp[opBad,c4])
    simp only[ir37,rs37,gl,hF,c1,c2,c3,we,c4,sub_zero,qdb,qai,List.length_cons,List.length_nil,Nat.reduceAdd,Nat.le_refl,Nat.reduceLeDiff,Nat.reduceLT,true_and,and_true,↓evA,evB,evs,evp,mkB,repB,blen,↓retQ,res,resAll,resOne,kill,apartOk,exp,injV,injB,pur,purs,purR,pursR,List.reduceReplicate,Nat.reduceMul,Nat.reduceSub,Nat.reduceEqDiff,Int.reduceToNat,Int.reduceLE,Int.reduceLT,Int.reduceEq,reduceCtorEq,↓reduceIte]
    simp[out,outs,out1,pur]
  have nb:opBad b.length a e=false:=by simp[opBad,c1,c2,c3,c4]
  generalize hrr:opnR k b a e x=r
  rw[hrr]at hF
  rw[opnR,if_neg (by rw[nb];decide)]at hrr
  clear bad
  obtain⟨a,rfl⟩:=Int.eq_ofNat_of_zero_le (show 0≤a by omega)
  obtain⟨e,rfl⟩:=Int.eq_ofNat_of_zero_le (show 0≤e by omega)
  have ha:1≤a:=by omega
  have hae:a+20≤e:=by omega
  have heb:e≤b.length:=by omega
  have we:Go.IntKind.i64.wrap ((e:Int)-(a:Int))=((e-a:Nat):Int):=by rw[wrap_i64];omega
  have c4:¬((e-a:Nat):Int)<20:=by omega
  simp only[Int.ofNat_eq_natCast,Int.toNat_natCast]at hF hrr c1 c2 c3 ⊢
  -- the bytes
  have hcl:(sub b 0 e).length=e:=by simp[sub];omega
  have hcd:Dig 256 (sub b 0 e):=sub_dig' hb
  have hdf:opD k b a e=itr (hidS (hmask k (sub b 0 e) a) a) (hfst k (sub b 0 e) a) (opN k b a e):=rfl
  have hnf:opN k b a e=hnum (getI (hfst k (sub b 0 e) a) 0):=rfl
  have hff:hfst k (sub b 0 e) a=(sub b 0 e).set 0 (bXor .u8 (getI (sub b 0 e) 0) (bAnd .u8 (getI (hmask k (sub b 0 e) a) 0) (hbits (getI (sub b 0 e) 0)))):=rfl
  have hS:B16 (sub (sub b 0 e) (a+4) 16):=⟨by simp[sub];omega,sub_dig' hcd⟩
  have hM:B16 (sub k 28 16):=⟨by simp[sub,hkl],sub_dig' hk.2⟩
  have hE:=enc_ok hM hS
  have hae2:=aes_eq hM hS
  have qE:preEncR [.s .u8 (boxL 256),.v (.ints .u8 (sub k 28 16)),.v (.ints .u8 (sub (sub b 0 e) (a+4) 16))]:=⟨_,_,_,rfl,boxL_ok,hM,hS⟩
  have fE:F56 [.s .u8 (boxL 256),.v (.ints .u8 (sub k 28 16)),.v (.ints .u8 (sub (sub b 0 e) (a+4) 16))]=.one (.v (.ints .u8 (hmask k (sub b 0 e) a))):=by
    show Out.one (.v (.ints .u8 (encR (boxL 256) (sub k 28 16) (sub (sub b 0 e) (a+4) 16))))=_
    rw[←hae2];rfl
  have hmB:B16 (hmask k (sub b 0 e) a):=hE
  have hDl:(opD k b a e).length=e:=by rw[opD,hidF_len,hcl]
  have hDd:Dig 256 (opD k b a e):=hidF_dig hcd a true
  have hfl:(hfst k (sub b 0 e) a).length=e:=by rw[hff,List.length_set,hcl]
  have hn:opN k b a e≤4∧1≤opN k b a e:=hnum_le _
  have hP:opP k b a e x=fullF (shN (opD k b a e) a (opN k b a e)) (opN k b a e) x:=rfl
  have hHe:opH k b a e=sub (opD k b a e) 0 (a+opN k b a e):=rfl
  have hTe:opT k b a e=sub (opD k b a e) (a+opN k b a e) (e-(a+opN k b a e)):=rfl
  generalize hc:sub b 0 e=c
  rw[hc]at hcl hcd hdf hnf hff hS qE fE hmB hfl
  generalize hSe:sub c (a+4) 16=S
  rw[hSe]at hS qE fE
  generalize hk2:sub k 28 16=k2
  rw[hk2]at qE fE hM
  generalize hm:hmask k c a=m
  rw[hm]at fE hmB hdf hff
  generalize hf:hfst k c a=f
  rw[hf]at hdf hnf hff hfl
  have hfd:Dig 256 f:=by rw[hff];exact hcd.set _ (x8_bd _ _).1 (x8_bd _ _).2
  generalize hde:opD k b a e=d
  generalize hne:opN k b a e=n
  rw[hde]at hDl hDd hrr
  rw[hde,hne]at hP hHe hTe
  rw[hde,hne]at hdf
  rw[hne]at hn hnf
  have hq:=hid_sh hdf.symm (by omega)
  have hss:=shN_lt hDd a n
  have hp8:pw8 n≤4294967296:=by rcases (by omega:n=1∨n=2∨n=3∨n=4)with rfl | rfl | rfl | rfl<;>decide
  have q2:preFull [.v (.int .u64 ((shN d a n:Nat):Int)),.v (.int .i64 (n:Int)),.v (.int .u64 (x:Int))]:=⟨shN d a n,n,x,rfl,hn.2,hn.1,by omega,hx⟩
  have f2:F59 [.v (.int .u64 ((shN d a n:Nat):Int)),.v (.int .i64 (n:Int)),.v (.int .u64 (x:Int))]=.one (.v (.int .u64 (fullF (shN d a n) n x:Nat))):=rfl
  rw[←hP]at f2
  generalize hPe:opP k b a e x=P
  rw[hPe]at f2 hrr
  have hN:B12 (nonF k P):=nonS_ok hk 8
  have hNz:=nonZ_eq hkl (P:Int)
  generalize hNe:nonF k P=N
  rw[hNe]at hN hrr hNz
  have hK:B16 (sub k 0 16):=⟨by simp[sub,hkl],sub_dig' hk.2⟩
  generalize hky:sub k 0 16=ky
  rw[hky]at hK hrr
  generalize hk1:sub k 16 12=k1
  have hk1l:k1.length=12:=by rw[←hk1];simp[sub,hkl]
  rw[hk1]at hNz
  have hHd:Dig 256 (sub d 0 (a+n)):=sub_dig' hDd
  have hTd:Dig 256 (sub d (a+n) (e-(a+n))):=sub_dig' hDd
  have hHl:(sub d 0 (a+n)).length=a+n:=by simp[sub];omega
  have hTl:(sub d (a+n) (e-(a+n))).length=e-(a+n):=by simp[sub];omega
  generalize hH:opH k b a e=H
  generalize hT:opT k b a e=T
  rw[hH]at hHe hrr
  rw[hT]at hTe hrr
  have hHe':=hHe.symm
  have hTe':=hTe.symm
  rw[hHe']at hHd hHl
  rw[hTe']at hTd hTl
  generalize htl:e-(a+n)=tl
  rw[htl]at hTl hTe'
  have htl16:16≤tl:=by omega
  have hBd:Dig 256 (bodyF T):=sub_dig' hTd
  have hBe:sub T 0 (tl-16)=bodyF T:=by rw[bodyF,hTl]
  have hBl:(bodyF T).length=tl-16:=by simp[bodyF,sub];omega
  have hag:=seal_again (n:=N) (a:=H) hK hN hTd
  have hsu:=seal_sub ky N H (bodyF T) hBl
  have hC:opnB ky N H T=true→opnS ky N H T=strF (newF ky) N (bodyF T):=fun h=>by rw[opnS,h,if_pos rfl]
  have hCd:=str_dig (newF ky) N (bodyF T)
  have hCl:(strF (newF ky) N (bodyF T)).length=tl-16:=by rw[str_len,hBl]
  have s1l:=seal_len ky N H (bodyF T)
  rw[hBl]at s1l
  generalize hB0:bodyF T=B0
  rw[hB0]at hBd hBe hBl hag hsu hC hCd hCl s1l
  generalize hCe:strF (newF ky) N B0=C
  rw[hCe]at hag hsu hC hCd hCl
  have q4:preSR [.s .u8 (boxL 256),.v (.ints .u8 ky),.v (.ints .u8 N),.s .u8 H,.s .u8 B0]:=⟨_,_,_,_,rfl,hK,hN,hHd,by omega,hBd,by omega⟩
  have f4:F55 [.s .u8 (boxL 256),.v (.ints .u8 ky),.v (.ints .u8 N),.s .u8 H,.s .u8 B0]=.one (.s .u8 (sealF ky N H B0)):=rfl
  have q5:preSR [.s .u8 (boxL 256),.v (.ints .u8 ky),.v (.ints .u8 N),.s .u8 H,.s .u8 C]:=⟨_,_,_,_,rfl,hK,hN,hHd,by omega,hCd,by omega⟩
  have f5:F55 [.s .u8 (boxL 256),.v (.ints .u8 ky),.v (.ints .u8 N),.s .u8 H,.s .u8 C]=.one (.s .u8 (sealF ky N H C)):=rfl
  have s2l:=seal_len ky N H C
  have hS2d:=seal_dig ky N H C
  rw[hCl]at s2l
  generalize hS1:sealF ky N H B0=S1
  rw[hS1]at f4 hsu s1l
  generalize hS2:sealF ky N H C=S2
  rw[hS2]at f5 hag s2l hS2d
  have hxl:=boxL_len 256
  have fB:F54 []=.one (.s .u8 (boxL 256)):=rfl
  have qB:preE []:=rfl
  generalize hX:boxL 256=X
  rw[hX]at hxl fB qE fE q4 f4 q5 f5
  have sX:sub X 0 256=X:=sub_zero hxl
  have sk:sub k 0 44=k:=sub_zero hkl
  have hm16:=hmB.1
  have pm:spl [0,0,0,0,0,0,0,0,0,0,0,0,0,0,0,0] 0 m=m:=qdb (by simp[hm16])
  have pk1:spl [0,0,0,0,0,0,0,0,0,0,0,0] 0 k1=k1:=qdb (by simp[hk1l])
  have sm:sub m 0 16=m:=sub_zero hm16
  have w4:Go.IntKind.i64.wrap ((a:Int)+4)=((a+4:Nat):Int):=by rw[wrap_i64];omega
  have w20:Go.IntKind.i64.wrap ((a:Int)+20)=((a+20:Nat):Int):=by rw[wrap_i64];omega
  have h20:a+20-(a+4)=16:=by omega
  have hlt:=lt128 (show Bt (getI c 0)from hcd.all (by decide) 0)
  have hhb:hbits (getI c 0)=if bAnd .u8 (getI c 0) 128=0 then 31 else 15:=rfl
  have hd0:getI d 0=getI f 0:=by rw[hdf,hid_get n (by omega),if_neg (by omega)]
  have hf0:getI f 0=bXor .u8 (getI c 0) (bAnd .u8 (getI m 0) (hbits (getI c 0))):=by rw[hff,getI_sv (by omega),if_pos rfl]
  have hbb:bAnd .u8 (getI d 0) 128=bAnd .u8 (getI c 0) 128:=by
    rw[hd0,hf0,bits_top (hcd.all (by decide) 0) (hmB.2.all (by decide) 0) (hbits_or _)]
  have hrs:rst d=bAnd .u8 (getI d 0) (if bAnd .u8 (getI c 0) 128=0 then 28 else 12):=by rw[rst,hbb]
  have hnm:=hnum_mod (show Bt (getI f 0)from hfd.all (by decide) 0)
  rw[←hnf]at hnm
  have e0:0<e:=by omega
  simp only[s54,s56,s59,s55]
  by_cases h128:bAnd .u8 (getI c 0) 128=0
  · have c5:getI c 0<128:=hlt.1 h128
    rw[if_pos h128]at hhb hrs
    have hff2:c.set 0 (bXor .u8 (getI c 0) (bAnd .u8 (getI m 0) 31))=f:=by rw[hff,hhb]
    simp only[ir37,rs37,gl,hF,c1,c2,c3,c4,c5,we,qB,fB,hc,hcl,hxl,sX,w4,w20,h20,hSe,hS.1,hk2,qE,fE,hm16,pm,e0,hff2,hfl,hnm,hkl,sub_zero,qdb,qai,List.length_cons,List.length_nil,Nat.reduceAdd,Nat.le_refl,Nat.reduceLeDiff,Nat.reduceLT,true_and,and_true,↓evA,evB,evs,evp,mkB,repB,blen,↓retQ,res,resAll,resOne,kill,apartOk,exp,injV,injB,pur,purs,purR,pursR,List.reduceReplicate,Nat.reduceMul,Nat.reduceSub,Nat.reduceEqDiff,Int.reduceToNat,Int.reduceLE,Int.reduceLT,Int.reduceEq,reduceCtorEq,↓reduceIte]
    repeat(refine And.intro (by omega) ?_)
    refine awp_loopA (n:=178) hA [2,3,4,5,13,14,15,17,18,19,82,83] (by decide +kernel) (fun j:Nat=>[.int .i64 (a:Int),.int .i64 (e:Int),.int .u64 (x:Int),.ptr 5 0,.slice 6 0 1 256 256,.slice 8 0 1 e e,.ptr 9 0,.int .u8 28,.int .i64 (n:Int),.int .u64 ((shN d a j:Nat):Int),.int .i64 (n:Int),.int .i64 (j:Int)])
      (fun j=>[.ints true .u64 roots,.dead,.dead,.dead,.ints true .u8 b,.ints false .u8 k,.ints false .u8 X,.dead,.ints false .u8 (itr (hidS m a) f j),.ints false .u8 m]) (fun j=>j≤n) (fun j=>n-j) 0 ?_ (by omega) ?_
    · refine Hd.same ?_
      simp only[shN,itr,show ((0:Nat):Int)=0 from rfl,↓evA,evB,evs,evp,mkB,repB,blen,↓retQ,res,resAll,resOne,kill,apartOk,exp,injV,injB,pur,purs,purR,pursR,List.reduceReplicate,Nat.reduceAdd,Nat.reduceMul,Nat.reduceSub,Nat.reduceEqDiff,Nat.reduceLT,Int.reduceToNat,Int.reduceLE,Int.reduceLT,Int.reduceEq,reduceCtorEq,↓reduceIte]
    intro j hj K1 hK1
    simp only[s54,s56,s59,s55]
    by_cases hlj:j<n
    · have d1:(j:Int)<(n:Int):=by omega
      have wj:Go.IntKind.i64.wrap ((j:Int)+1)=((j+1:Nat):Int):=by rw[wrap_i64];omega
      have wa:Go.IntKind.i64.wrap ((a:Int)+(j:Int))=((a+j:Nat):Int):=by rw[wrap_i64];omega
      have wb:Go.IntKind.i64.wrap (1+(j:Int))=((1+j:Nat):Int):=by rw[wrap_i64];omega
      have hqj:=hq j hlj
      have hst:=shN_step hDd (a:=a) (n:=j) (by omega)
      have hbt:=hDd.all (by decide) (a+j)
      have v1:=wrap64 hbt.1 hbt.2
      have hyl:(itr (hidS m a) f j).length=e:=by rw[hidS_len,hfl]
      have hz:(itr (hidS m a) f j).set (a+j) (getI d (a+j))=itr (hidS m a) f (j+1):=by rw[←hqj];rfl
      have hzl:(itr (hidS m a) f (j+1)).length=e:=by rw[hidS_len,hfl]
      have hzg:getI (itr (hidS m a) f (j+1)) (a+j)=getI d (a+j):=by rw[←hz,getI_sv (by omega),if_pos rfl]
      have e1:a+j<e:=by omega
      have e2:1+j<16:=by omega
      generalize itr (hidS m a) f j=y at *
      generalize hze:itr (hidS m a) f (j+1)=z at *
      simp only[d1,wj,wa,wb,hqj,hyl,hz,hzl,hzg,hm16,v1,hst,e1,e2,sub_zero,qdb,qai,List.length_cons,List.length_nil,Nat.reduceAdd,Nat.le_refl,Nat.reduceLeDiff,Nat.reduceLT,true_and,and_true,↓evA,evB,evs,evp,mkB,repB,blen,↓retQ,res,resAll,resOne,kill,apartOk,exp,injV,injB,pur,purs,purR,pursR,List.reduceReplicate,Nat.reduceMul,Nat.reduceSub,Nat.reduceEqDiff,Int.reduceToNat,Int.reduceLE,Int.reduceLT,Int.reduceEq,reduceCtorEq,↓reduceIte]
      repeat(refine And.intro (by omega) ?_)
      refine⟨j+1,hK1 _ (by omega) (by omega),Hd.same ?_⟩
      simp only[hze,↓evA,evB,evs,evp,mkB,repB,blen,↓retQ,res,resAll,resOne,kill,apartOk,exp,injV,injB,pur,purs,purR,pursR,List.reduceReplicate,Nat.reduceAdd,Nat.reduceMul,Nat.reduceSub,Nat.reduceEqDiff,Nat.reduceLT,Int.reduceToNat,Int.reduceLE,Int.reduceLT,Int.reduceEq,reduceCtorEq,↓reduceIte]
    obtain rfl:j=n:=by omega
    have d1:¬(j:Int)<(j:Int):=by omega
    rw[←hdf]
    simp only[d1,q2,f2,hkl,hk1,hk1l,pk1,sub_zero,qdb,qai,List.length_cons,List.length_nil,Nat.reduceAdd,Nat.le_refl,Nat.reduceLeDiff,Nat.reduceLT,true_and,and_true,↓evA,evB,evs,evp,mkB,repB,blen,↓retQ,res,resAll,resOne,kill,apartOk,exp,injV,injB,pur,purs,purR,pursR,List.reduceReplicate,Nat.reduceMul,Nat.reduceSub,Nat.reduceEqDiff,Int.reduceToNat,Int.reduceLE,Int.reduceLT,Int.reduceEq,reduceCtorEq,↓reduceIte]
    repeat(refine And.intro (by omega) ?_)
    refine awp_loopA (n:=178) hA [2,3,5,13,14,17,18,21,22,115] (by decide +kernel) (fun i:Nat=>[.int .i64 (a:Int),.int .i64 (e:Int),.ptr 5 0,.slice 6 0 1 256 256,.slice 8 0 1 e e,.int .u8 28,.int .i64 (j:Int),.int .u64 (P:Int),.ptr 10 0,.int .i64 (i:Int)])
      (fun i=>[.ints true .u64 roots,.dead,.dead,.dead,.ints true .u8 b,.ints false .u8 k,.ints false .u8 X,.dead,.ints false .u8 d,.ints false .u8 m,.ints false .u8 (itr (nonZ (P:Int)) k1 i)]) (fun i=>i≤8) (fun i=>8-i) 0 ?_ (by omega) ?_
    · refine Hd.same ?_
      simp only[itr,show ((0:Nat):Int)=0 from rfl,↓evA,evB,evs,evp,mkB,repB,blen,↓retQ,res,resAll,resOne,kill,apartOk,exp,injV,injB,pur,purs,purR,pursR,List.reduceReplicate,Nat.reduceAdd,Nat.reduceMul,Nat.reduceSub,Nat.reduceEqDiff,Nat.reduceLT,Int.reduceToNat,Int.reduceLE,Int.reduceLT,Int.reduceEq,reduceCtorEq,↓reduceIte]
    intro i hi K2 hK2
    simp only[s54,s56,s59,s55]
    by_cases hli:i<8
    · have d2:(i:Int)<8:=by omega
      have wi:Go.IntKind.i64.wrap ((i:Int)+1)=((i+1:Nat):Int):=by rw[wrap_i64];omega
      have wa:Go.IntKind.i64.wrap (11-(i:Int))=((11-i:Nat):Int):=by rw[wrap_i64];omega
      have wb:Go.IntKind.i64.wrap (8*(i:Int))=((8*i:Nat):Int):=by rw[wrap_i64];omega
      have hyl:(itr (nonZ (P:Int)) k1 i).length=12:=by rw[nonZ_len,hk1l]
      have hz:(itr (nonZ (P:Int)) k1 i).set (11-i) (bXor .u8 (getI (itr (nonZ (P:Int)) k1 i) (11-i)) (Go.IntKind.u8.wrap (iShr .u64 (P:Int) ((8*i:Nat):Int))))=itr (nonZ (P:Int)) k1 (i+1):=rfl
      have e1:11-i<12:=by omega
      generalize itr (nonZ (P:Int)) k1 i=y at *
      generalize hze:itr (nonZ (P:Int)) k1 (i+1)=z at *
      simp only[d2,wi,wa,wb,hyl,hz,e1,sub_zero,qdb,qai,List.length_cons,List.length_nil,Nat.reduceAdd,Nat.le_refl,Nat.reduceLeDiff,Nat.reduceLT,true_and,and_true,↓evA,evB,evs,evp,mkB,repB,blen,↓retQ,res,resAll,resOne,kill,apartOk,exp,injV,injB,pur,purs,purR,pursR,List.reduceReplicate,Nat.reduceMul,Nat.reduceSub,Nat.reduceEqDiff,Int.reduceToNat,Int.reduceLE,Int.reduceLT,Int.reduceEq,reduceCtorEq,↓reduceIte]
      repeat(refine And.intro (by omega) ?_)
      refine⟨i+1,hK2 _ (by omega) (by omega),Hd.same ?_⟩
      simp only[hze,↓evA,evB,evs,evp,mkB,repB,blen,↓retQ,res,resAll,resOne,kill,apartOk,exp,injV,injB,pur,purs,purR,pursR,List.reduceReplicate,Nat.reduceAdd,Nat.reduceMul,Nat.reduceSub,Nat.reduceEqDiff,Nat.reduceLT,Int.reduceToNat,Int.reduceLE,Int.reduceLT,Int.reduceEq,reduceCtorEq,↓reduceIte]
    obtain rfl:i=8:=by omega
    have d2:¬((8:Nat):Int)<8:=by omega
    have wan:Go.IntKind.i64.wrap ((a:Int)+(j:Int))=((a+j:Nat):Int):=by rw[wrap_i64];omega
    have wtl:Go.IntKind.i64.wrap ((tl:Int)-16)=((tl-16:Nat):Int):=by rw[wrap_i64];omega
    have hNl:=hN.1
    have hkyl:=hK.1
    have sN:sub N 0 12=N:=sub_zero hNl
    have hB1:sub d (a+j) (tl-16)=B0:=by
      rw[←hBe,←hTe'];simp only[sub,List.drop_zero,List.take_take];rw[Nat.min_eq_left (by omega)]
    have s1:sub S1 0 (tl-16+16)=S1:=sub_zero s1l
    have s2:sub S2 0 (tl-16+16)=S2:=sub_zero s2l
    rw[hNz]
    cases hob:opnB ky N H T with
    | false =>
      have d3:¬List.map byte S2=List.map byte T:=fun h=>by rw[map_byte hS2d,map_byte hTd]at h;rw[hag.1 h]at hob;cases hob
      rw[hob,if_neg (by decide)]at hrr
      subst hrr
      simp only[d2,wan,sX,hxl,htl,wtl,hky,hNl,sN,hHe',hTe',hTl,hB1,q4,f4,s1l,s1,hsu,q5,f5,s2l,s2,d3,hDl,hkl,sub_zero,qdb,qai,List.length_cons,List.length_nil,Nat.reduceAdd,Nat.le_refl,Nat.reduceLeDiff,Nat.reduceLT,true_and,and_true,↓evA,evB,evs,evp,mkB,repB,blen,↓retQ,res,resAll,resOne,kill,apartOk,exp,injV,injB,pur,purs,purR,pursR,List.reduceReplicate,Nat.reduceMul,Nat.reduceSub,Nat.reduceEqDiff,Int.reduceToNat,Int.reduceLE,Int.reduceLT,Int.reduceEq,reduceCtorEq,↓reduceIte]
      repeat(refine And.intro (by omega) ?_)
      simp[out,outs,out1,pur]
    | true =>
      have d3:S2=T:=hag.2 hob
      rw[hob,if_pos rfl]at hrr
      have hCe2:=hC hob
      rw[hCe2]at hrr
      by_cases hr:bAnd .u8 (getI d 0) 28=0
      · rw[hrs,if_pos hr]at hrr
        subst hrr
        simp only[d2,wan,sX,hxl,htl,wtl,hky,hNl,sN,hHe',hTe',hTl,hB1,q4,f4,s1l,s1,hsu,q5,f5,s2l,s2,d3,hDl,hkl,e0,hr,sub_zero,qdb,qai,List.length_cons,List.length_nil,Nat.reduceAdd,Nat.le_refl,Nat.reduceLeDiff,Nat.reduceLT,true_and,and_true,↓evA,evB,evs,evp,mkB,repB,blen,↓retQ,res,resAll,resOne,kill,apartOk,exp,injV,injB,pur,purs,purR,pursR,List.reduceReplicate,Nat.reduceMul,Nat.reduceSub,Nat.reduceEqDiff,Int.reduceToNat,Int.reduceLE,Int.reduceLT,Int.reduceEq,reduceCtorEq,↓reduceIte]
        repeat(refine And.intro (by omega) ?_)
        simp only[out,outs,out1,pur,hsu,s1l,Nat.zero_add,purs,qcz,qc0,List.not_mem_nil,not_false_eq_true,true_and,and_true,Nat.reduceLeDiff,Nat.le_refl]
        omega
      · rw[hrs,if_neg hr]at hrr
        subst hrr
        simp only[d2,wan,sX,hxl,htl,wtl,hky,hNl,sN,hHe',hTe',hTl,hB1,q4,f4,s1l,s1,hsu,q5,f5,s2l,s2,d3,hDl,hkl,e0,hr,sub_zero,qdb,qai,List.length_cons,List.length_nil,Nat.reduceAdd,Nat.le_refl,Nat.reduceLeDiff,Nat.reduceLT,true_and,and_true,↓evA,evB,evs,evp,mkB,repB,blen,↓retQ,res,resAll,resOne,kill,apartOk,exp,injV,injB,pur,purs,purR,pursR,List.reduceReplicate,Nat.reduceMul,Nat.reduceSub,Nat.reduceEqDiff,Int.reduceToNat,Int.reduceLE,Int.reduceLT,Int.reduceEq,reduceCtorEq,↓reduceIte]
        repeat(refine And.intro (by omega) ?_)
        simp[out,outs,out1,pur]
  · have c5:¬getI c 0<128:=fun h=>h128 (hlt.2 h)
    rw[if_neg h128]at hhb hrs
    have hff2:c.set 0 (bXor .u8 (getI c 0) (bAnd .u8 (getI m 0) 15))=f:=by rw[hff,hhb]
    simp only[ir37,rs37,gl,hF,c1,c2,c3,c4,c5,we,qB,fB,hc,hcl,hxl,sX,w4,w20,h20,hSe,hS.1,hk2,qE,fE,hm16,pm,e0,hff2,hfl,hnm,hkl,sub_zero,qdb,qai,List.length_cons,List.length_nil,Nat.reduceAdd,Nat.le_refl,Nat.reduceLeDiff,Nat.reduceLT,true_and,and_true,↓evA,evB,evs,evp,mkB,repB,blen,↓retQ,res,resAll,resOne,kill,apartOk,exp,injV,injB,pur,purs,purR,pursR,List.reduceReplicate,Nat.reduceMul,Nat.reduceSub,Nat.reduceEqDiff,Int.reduceToNat,Int.reduceLE,Int.reduceLT,Int.reduceEq,reduceCtorEq,↓reduceIte]
    repeat(refine And.intro (by omega) ?_)
    refine awp_loopA (n:=178) hA [2,3,4,5,13,14,15,17,18,19,82,83] (by decide +kernel) (fun j:Nat=>[.int .i64 (a:Int),.int .i64 (e:Int),.int .u64 (x:Int),.ptr 5 0,.slice 6 0 1 256 256,.slice 8 0 1 e e,.ptr 9 0,.int .u8 12,.int .i64 (n:Int),.int .u64 ((shN d a j:Nat):Int),.int .i64 (n:Int),.int .i64 (j:Int)])
      (fun j=>[.ints true .u64 roots,.dead,.dead,.dead,.ints true .u8 b,.ints false .u8 k,.ints false .u8 X,.dead,.ints false .u8 (itr (hidS m a) f j),.ints false .u8 m]) (fun j=>j≤n) (fun j=>n-j) 0 ?_ (by omega) ?_
    · refine Hd.same ?_
      simp only[shN,itr,show ((0:Nat):Int)=0 from rfl,↓evA,evB,evs,evp,mkB,repB,blen,↓retQ,res,resAll,resOne,kill,apartOk,exp,injV,injB,pur,purs,purR,pursR,List.reduceReplicate,Nat.reduceAdd,Nat.reduceMul,Nat.reduceSub,Nat.reduceEqDiff,Nat.reduceLT,Int.reduceToNat,Int.reduceLE,Int.reduceLT,Int.reduceEq,reduceCtorEq,↓reduceIte]
    intro j hj K1 hK1
    simp only[s54,s56,s59,s55]
    by_cases hlj:j<n
    · have d1:(j:Int)<(n:Int):=by omega
      have wj:Go.IntKind.i64.wrap ((j:Int)+1)=((j+1:Nat):Int):=by rw[wrap_i64];omega
      have wa:Go.IntKind.i64.wrap ((a:Int)+(j:Int))=((a+j:Nat):Int):=by rw[wrap_i64];omega
      have wb:Go.IntKind.i64.wrap (1+(j:Int))=((1+j:Nat):Int):=by rw[wrap_i64];omega
      have hqj:=hq j hlj
      have hst:=shN_step hDd (a:=a) (n:=j) (by omega)
      have hbt:=hDd.all (by decide) (a+j)
      have v1:=wrap64 hbt.1 hbt.2
      have hyl:(itr (hidS m a) f j).length=e:=by rw[hidS_len,hfl]
      have hz:(itr (hidS m a) f j).set (a+j) (getI d (a+j))=itr (hidS m a) f (j+1):=by rw[←hqj];rfl
      have hzl:(itr (hidS m a) f (j+1)).length=e:=by rw[hidS_len,hfl]
      have hzg:getI (itr (hidS m a) f (j+1)) (a+j)=getI d (a+j):=by rw[←hz,getI_sv (by omega),if_pos rfl]
      have e1:a+j<e:=by omega
      have e2:1+j<16:=by omega
      generalize itr (hidS m a) f j=y at *
      generalize hze:itr (hidS m a) f (j+1)=z at *
      simp only[d1,wj,wa,wb,hqj,hyl,hz,hzl,hzg,hm16,v1,hst,e1,e2,sub_zero,qdb,qai,List.length_cons,List.length_nil,Nat.reduceAdd,Nat.le_refl,Nat.reduceLeDiff,Nat.reduceLT,true_and,and_true,↓evA,evB,evs,evp,mkB,repB,blen,↓retQ,res,resAll,resOne,kill,apartOk,exp,injV,injB,pur,purs,purR,pursR,List.reduceReplicate,Nat.reduceMul,Nat.reduceSub,Nat.reduceEqDiff,Int.reduceToNat,Int.reduceLE,Int.reduceLT,Int.reduceEq,reduceCtorEq,↓reduceIte]
      repeat(refine And.intro (by omega) ?_)
      refine⟨j+1,hK1 _ (by omega) (by omega),Hd.same ?_⟩
      simp only[hze,↓evA,evB,evs,evp,mkB,repB,blen,↓retQ,res,resAll,resOne,kill,apartOk,exp,injV,injB,pur,purs,purR,pursR,List.reduceReplicate,Nat.reduceAdd,Nat.reduceMul,Nat.reduceSub,Nat.reduceEqDiff,Nat.reduceLT,Int.reduceToNat,Int.reduceLE,Int.reduceLT,Int.reduceEq,reduceCtorEq,↓reduceIte]
    obtain rfl:j=n:=by omega
    have d1:¬(j:Int)<(j:Int):=by omega
    rw[←hdf]
    simp only[d1,q2,f2,hkl,hk1,hk1l,pk1,sub_zero,qdb,qai,List.length_cons,List.length_nil,Nat.reduceAdd,Nat.le_refl,Nat.reduceLeDiff,Nat.reduceLT,true_and,and_true,↓evA,evB,evs,evp,mkB,repB,blen,↓retQ,res,resAll,resOne,kill,apartOk,exp,injV,injB,pur,purs,purR,pursR,List.reduceReplicate,Nat.reduceMul,Nat.reduceSub,Nat.reduceEqDiff,Int.reduceToNat,Int.reduceLE,Int.reduceLT,Int.reduceEq,reduceCtorEq,↓reduceIte]
    repeat(refine And.intro (by omega) ?_)
    refine awp_loopA (n:=178) hA [2,3,5,13,14,17,18,21,22,115] (by decide +kernel) (fun i:Nat=>[.int .i64 (a:Int),.int .i64 (e:Int),.ptr 5 0,.slice 6 0 1 256 256,.slice 8 0 1 e e,.int .u8 12,.int .i64 (j:Int),.int .u64 (P:Int),.ptr 10 0,.int .i64 (i:Int)])
      (fun i=>[.ints true .u64 roots,.dead,.dead,.dead,.ints true .u8 b,.ints false .u8 k,.ints false .u8 X,.dead,.ints false .u8 d,.ints false .u8 m,.ints false .u8 (itr (nonZ (P:Int)) k1 i)]) (fun i=>i≤8) (fun i=>8-i) 0 ?_ (by omega) ?_
    · refine Hd.same ?_
      simp only[itr,show ((0:Nat):Int)=0 from rfl,↓evA,evB,evs,evp,mkB,repB,blen,↓retQ,res,resAll,resOne,kill,apartOk,exp,injV,injB,pur,purs,purR,pursR,List.reduceReplicate,Nat.reduceAdd,Nat.reduceMul,Nat.reduceSub,Nat.reduceEqDiff,Nat.reduceLT,Int.reduceToNat,Int.reduceLE,Int.reduceLT,Int.reduceEq,reduceCtorEq,↓reduceIte]
    intro i hi K2 hK2
    simp only[s54,s56,s59,s55]
    by_cases hli:i<8
    · have d2:(i:Int)<8:=by omega
      have wi:Go.IntKind.i64.wrap ((i:Int)+1)=((i+1:Nat):Int):=by rw[wrap_i64];omega
      have wa:Go.IntKind.i64.wrap (11-(i:Int))=((11-i:Nat):Int):=by rw[wrap_i64];omega
      have wb:Go.IntKind.i64.wrap (8*(i:Int))=((8*i:Nat):Int):=by rw[wrap_i64];omega
      have hyl:(itr (nonZ (P:Int)) k1 i).length=12:=by rw[nonZ_len,hk1l]
      have hz:(itr (nonZ (P:Int)) k1 i).set (11-i) (bXor .u8 (getI (itr (nonZ (P:Int)) k1 i) (11-i)) (Go.IntKind.u8.wrap (iShr .u64 (P:Int) ((8*i:Nat):Int))))=itr (nonZ (P:Int)) k1 (i+1):=rfl
      have e1:11-i<12:=by omega
      generalize itr (nonZ (P:Int)) k1 i=y at *
      generalize hze:itr (nonZ (P:Int)) k1 (i+1)=z at *
      simp only[d2,wi,wa,wb,hyl,hz,e1,sub_zero,qdb,qai,List.length_cons,List.length_nil,Nat.reduceAdd,Nat.le_refl,Nat.reduceLeDiff,Nat.reduceLT,true_and,and_true,↓evA,evB,evs,evp,mkB,repB,blen,↓retQ,res,resAll,resOne,kill,apartOk,exp,injV,injB,pur,purs,purR,pursR,List.reduceReplicate,Nat.reduceMul,Nat.reduceSub,Nat.reduceEqDiff,Int.reduceToNat,Int.reduceLE,Int.reduceLT,Int.reduceEq,reduceCtorEq,↓reduceIte]
      repeat(refine And.intro (by omega) ?_)
      refine⟨i+1,hK2 _ (by omega) (by omega),Hd.same ?_⟩
      simp only[hze,↓evA,evB,evs,evp,mkB,repB,blen,↓retQ,res,resAll,resOne,kill,apartOk,exp,injV,injB,pur,purs,purR,pursR,List.reduceReplicate,Nat.reduceAdd,Nat.reduceMul,Nat.reduceSub,Nat.reduceEqDiff,Nat.reduceLT,Int.reduceToNat,Int.reduceLE,Int.reduceLT,Int.reduceEq,reduceCtorEq,↓reduceIte]
    obtain rfl:i=8:=by omega
    have d2:¬((8:Nat):Int)<8:=by omega
    have wan:Go.IntKind.i64.wrap ((a:Int)+(j:Int))=((a+j:Nat):Int):=by rw[wrap_i64];omega
    have wtl:Go.IntKind.i64.wrap ((tl:Int)-16)=((tl-16:Nat):Int):=by rw[wrap_i64];omega
    have hNl:=hN.1
    have hkyl:=hK.1
    have sN:sub N 0 12=N:=sub_zero hNl
    have hB1:sub d (a+j) (tl-16)=B0:=by
      rw[←hBe,←hTe'];simp only[sub,List.drop_zero,List.take_take];rw[Nat.min_eq_left (by omega)]
    have s1:sub S1 0 (tl-16+16)=S1:=sub_zero s1l
    have s2:sub S2 0 (tl-16+16)=S2:=sub_zero s2l
    rw[hNz]
    cases hob:opnB ky N H T with
    | false =>
      have d3:¬List.map byte S2=List.map byte T:=fun h=>by rw[map_byte hS2d,map_byte hTd]at h;rw[hag.1 h]at hob;cases hob
      rw[hob,if_neg (by decide)]at hrr
      subst hrr
      simp only[d2,wan,sX,hxl,htl,wtl,hky,hNl,sN,hHe',hTe',hTl,hB1,q4,f4,s1l,s1,hsu,q5,f5,s2l,s2,d3,hDl,hkl,sub_zero,qdb,qai,List.length_cons,List.length_nil,Nat.reduceAdd,Nat.le_refl,Nat.reduceLeDiff,Nat.reduceLT,true_and,and_true,↓evA,evB,evs,evp,mkB,repB,blen,↓retQ,res,resAll,resOne,kill,apartOk,exp,injV,injB,pur,purs,purR,pursR,List.reduceReplicate,Nat.reduceMul,Nat.reduceSub,Nat.reduceEqDiff,Int.reduceToNat,Int.reduceLE,Int.reduceLT,Int.reduceEq,reduceCtorEq,↓reduceIte]
      repeat(refine And.intro (by omega) ?_)
      simp[out,outs,out1,pur]
    | true =>
      have d3:S2=T:=hag.2 hob
      rw[hob,if_pos rfl]at hrr
      have hCe2:=hC hob
      rw[hCe2]at hrr
      by_cases hr:bAnd .u8 (getI d 0) 12=0
      · rw[hrs,if_pos hr]at hrr
        subst hrr
        simp only[d2,wan,sX,hxl,htl,wtl,hky,hNl,sN,hHe',hTe',hTl,hB1,q4,f4,s1l,s1,hsu,q5,f5,s2l,s2,d3,hDl,hkl,e0,hr,sub_zero,qdb,qai,List.length_cons,List.length_nil,Nat.reduceAdd,Nat.le_refl,Nat.reduceLeDiff,Nat.reduceLT,true_and,and_true,↓evA,evB,evs,evp,mkB,repB,blen,↓retQ,res,resAll,resOne,kill,apartOk,exp,injV,injB,pur,purs,purR,pursR,List.reduceReplicate,Nat.reduceMul,Nat.reduceSub,Nat.reduceEqDiff,Int.reduceToNat,Int.reduceLE,Int.reduceLT,Int.reduceEq,reduceCtorEq,↓reduceIte]
        repeat(refine And.intro (by omega) ?_)
        simp only[out,outs,out1,pur,hsu,s1l,Nat.zero_add,purs,qcz,qc0,List.not_mem_nil,not_false_eq_true,true_and,and_true,Nat.reduceLeDiff,Nat.le_refl]
        omega
      · rw[hrs,if_neg hr]at hrr
        subst hrr
        simp only[d2,wan,sX,hxl,htl,wtl,hky,hNl,sN,hHe',hTe',hTl,hB1,q4,f4,s1l,s1,hsu,q5,f5,s2l,s2,d3,hDl,hkl,e0,hr,sub_zero,qdb,qai,List.length_cons,List.length_nil,Nat.reduceAdd,Nat.le_refl,Nat.reduceLeDiff,Nat.reduceLT,true_and,and_true,↓evA,evB,evs,evp,mkB,repB,blen,↓retQ,res,resAll,resOne,kill,apartOk,exp,injV,injB,pur,purs,purR,pursR,List.reduceReplicate,Nat.reduceMul,Nat.reduceSub,Nat.reduceEqDiff,Int.reduceToNat,Int.reduceLE,Int.reduceLT,Int.reduceEq,reduceCtorEq,↓reduceIte]
        repeat(refine And.intro (by omega) ?_)
        simp[out,outs,out1,pur]
end Am
set_option maxRecDepth 20000
namespace Am
open Go.Proofs
/-! ### GuardOpens -/
def preGOp (ds:List D):Prop:=∃(C:List D) (o z:List Int) (at0 en0 bit x w:Int),ds=C++[.v (.ints .u8 o),.s .u8 z,.v (.int .i64 at0),.v (.int .i64 en0),.v (.int .i64 bit),.v (.int .u64 x),.v (.int .u8 w)]∧Dm caseG C∧Sec o∧Dig 256 z∧(0≤x∧x<18446744073709551616)∧(0≤w∧w<256)
theorem gkeys_dig (s:List Int):Dig 256 (gkeys s):=by
  unfold gkeys
  exact(exps_dig' _ _ _).append ((exps_dig' _ _ _).append (exps_dig' _ _ _))
set_option maxHeartbeats 16000000 in
theorem lawGuardOpens:∀ds,preGOp ds→Does Tryd.prog gl 10 (fold [some 39,none,none,none,none,none,none,none] (injV ds 4)) (gl++injB true ds) (out (4+(injB true ds).length) (FTrue ds)):=by
  refine fdoesF (l:=[(12,s12),(31,s31),(32,s32),(35,s35),(13,s13),(33,s33),(36,sOp),(37,s37)]) mixed gl_plain rfl Tryd.func10 comp10 compR10 nt10 (by simp only[List.mem_cons,List.not_mem_nil,or_false,forall_eq_or_imp,forall_eq];exact⟨ok12,ok31,ok32,ok35,ok13,ok33,okOp,ok37⟩) fun ds ⟨C,o,z,at0,en0,bit,x,w,hd,hC,ho,hz0,hx,hw⟩ hA=>?_
  obtain⟨x,rfl⟩:=Int.eq_ofNat_of_zero_le hx.1
  obtain⟨w,rfl⟩:=Int.eq_ofNat_of_zero_le hw.1
  obtain⟨s,to,fr,b,sp,pn,ac,r,hCe,hs,hsp,hto,hfr,hpn,hac,hb⟩:=case_of hC
  subst hCe
  subst hd
  have hsl:=hs.1
  have hol:=ho.1
  have hvI:injV ((s.map (fun x=>D.v (.int .u8 x))++[.v (.int .i64 sp),.s .u8 to,.s .u8 fr,.v (.int .u64 (pn:Int)),.v (.int .u64 (ac:Int)),.v (.bool r),.s .u8 b])++[.v (.ints .u8 o),.s .u8 z,.v (.int .i64 at0),.v (.int .i64 en0),.v (.int .i64 bit),.v (.int .u64 (x:Int)),.v (.int .u8 (w:Int))]) 4 =
      cs s [.int .i64 sp,.slice 4 0 1 to.length to.length,.slice 5 0 1 fr.length fr.length,.int .u64 (pn:Int),.int .u64 (ac:Int),.bool r,.slice 6 0 1 b.length b.length,.ints .u8 o,.slice 7 0 1 z.length z.length,.int .i64 at0,.int .i64 en0,.int .i64 bit,.int .u64 (x:Int),.int .u8 (w:Int)]:=by
    rw[List.append_assoc,injV_cs];rfl
  have hbI:injB true ((s.map (fun x=>D.v (.int .u8 x))++[.v (.int .i64 sp),.s .u8 to,.s .u8 fr,.v (.int .u64 (pn:Int)),.v (.int .u64 (ac:Int)),.v (.bool r),.s .u8 b])++[.v (.ints .u8 o),.s .u8 z,.v (.int .i64 at0),.v (.int .i64 en0),.v (.int .i64 bit),.v (.int .u64 (x:Int)),.v (.int .u8 (w:Int))]) =
      [.ints true .u8 to,.ints true .u8 fr,.ints true .u8 b,.ints true .u8 z]:=by
    rw[List.append_assoc,injB_cs];rfl
  have hfo:fold [some 39,none,none,none,none,none,none,none] (cs s [.int .i64 sp,.slice 4 0 1 to.length to.length,.slice 5 0 1 fr.length fr.length,.int .u64 (pn:Int),.int .u64 (ac:Int),.bool r,.slice 6 0 1 b.length b.length,.ints .u8 o,.slice 7 0 1 z.length z.length,.int .i64 at0,.int .i64 en0,.int .i64 bit,.int .u64 (x:Int),.int .u8 (w:Int)]) =
      [.agg (cs s [.int .i64 sp,.slice 4 0 1 to.length to.length,.slice 5 0 1 fr.length fr.length,.int .u64 (pn:Int),.int .u64 (ac:Int),.bool r,.slice 6 0 1 b.length b.length]),.ints .u8 o,.slice 7 0 1 z.length z.length,.int .i64 at0,.int .i64 en0,.int .i64 bit,.int .u64 (x:Int),.int .u8 (w:Int)]:=by
    have t1:List.take 39 (s.map (V.int .u8))=s.map (V.int .u8):=List.take_of_length_le (by simp[hsl])
    have t2:List.drop 39 (s.map (V.int .u8))=[]:=List.drop_of_length_le (by simp[hsl])
    simp[fold,cs,List.take_append,List.drop_append,hsl,t1,t2]
  have hg:∀ds:List D,FTrue ds=.one (.v (.bool true)):=fun _=>rfl
  rw[hbI]
  simp only[hvI,hfo,hg]
  clear hvI hbI hfo hg
  have hlen:∀r:Bool,(cs s [.int .i64 sp,.slice 4 0 1 to.length to.length,.slice 5 0 1 fr.length fr.length,.int .u64 (pn:Int),.int .u64 (ac:Int),.bool r,.slice 6 0 1 b.length b.length]).length=39:=fun r=>cs_len hsl _
  have hsub:∀r:Bool,sub (cs s [.int .i64 sp,.slice 4 0 1 to.length to.length,.slice 5 0 1 fr.length fr.length,.int .u64 (pn:Int),.int .u64 (ac:Int),.bool r,.slice 6 0 1 b.length b.length]) 0 39=cs s [.int .i64 sp,.slice 4 0 1 to.length to.length,.slice 5 0 1 fr.length fr.length,.int .u64 (pn:Int),.int .u64 (ac:Int),.bool r,.slice 6 0 1 b.length b.length]:=fun r=>sub_zero (hlen r)
  have hagc:∀r:Bool,agI (cs s [.int .i64 sp,.slice 4 0 1 to.length to.length,.slice 5 0 1 fr.length fr.length,.int .u64 (pn:Int),.int .u64 (ac:Int),.bool r,.slice 6 0 1 b.length b.length])=.agg (cs s [.int .i64 sp,.slice 4 0 1 to.length to.length,.slice 5 0 1 fr.length fr.length,.int .u64 (pn:Int),.int .u64 (ac:Int),.bool r,.slice 6 0 1 b.length b.length]):=fun r=>agI_cs hsl rfl
  have hn6:∀r:Bool,nth (cs s [.int .i64 sp,.slice 4 0 1 to.length to.length,.slice 5 0 1 fr.length fr.length,.int .u64 (pn:Int),.int .u64 (ac:Int),.bool r,.slice 6 0 1 b.length b.length]) 38=.slice 6 0 1 b.length b.length:=fun r=>cs_nth hsl _ 6
  have hup:upd (cs s [.int .i64 sp,.slice 4 0 1 to.length to.length,.slice 5 0 1 fr.length fr.length,.int .u64 (pn:Int),.int .u64 (ac:Int),.bool r,.slice 6 0 1 b.length b.length]) 37 (.bool true)=cs s [.int .i64 sp,.slice 4 0 1 to.length to.length,.slice 5 0 1 fr.length fr.length,.int .u64 (pn:Int),.int .u64 (ac:Int),.bool true,.slice 6 0 1 b.length b.length]:=by
    rw[upd_set,cs,cs,List.set_append_right _ _ (by simp[hsl]),List.length_map,hsl];rfl
  have hs32:∀r:Bool,sub (cs s [.int .i64 sp,.slice 4 0 1 to.length to.length,.slice 5 0 1 fr.length fr.length,.int .u64 (pn:Int),.int .u64 (ac:Int),.bool r,.slice 6 0 1 b.length b.length]) 0 32=s.map (V.int .u8):=fun r=>cs_sub hsl _
  have hags:agI (s.map (V.int .u8))=.ints .u8 s:=agI_ints (fun h=>by rw[h]at hsl;simp at hsl)
  have sb:=qdd b
  have sz:=qdd z
  have pA:pre12 []:=rfl
  have fA:F12 []=.one (.v (.bool true)):=rfl
  have qL:preLng [.v (.agg (cs s [.int .i64 sp,.rsl 1 to.length .u8 to,.rsl 1 fr.length .u8 fr,.int .u64 (pn:Int),.int .u64 (ac:Int),.bool r,.rsl 1 b.length .u8 b]))]:=⟨s,to,fr,b,sp,pn,ac,r,rfl,hsl⟩
  have fL:lngF [.v (.agg (cs s [.int .i64 sp,.rsl 1 to.length .u8 to,.rsl 1 fr.length .u8 fr,.int .u64 (pn:Int),.int .u64 (ac:Int),.bool r,.rsl 1 b.length .u8 b]))]=.one (.v (.bool (decide (50<to.length)||decide (50<fr.length)||decide (120<b.length)))):=by
    have h1:=cs_nth hsl [.int .i64 sp,.rsl 1 to.length .u8 to,.rsl 1 fr.length .u8 fr,.int .u64 (pn:Int),.int .u64 (ac:Int),.bool r,.rsl 1 b.length .u8 b] 1
    have h2:=cs_nth hsl [.int .i64 sp,.rsl 1 to.length .u8 to,.rsl 1 fr.length .u8 fr,.int .u64 (pn:Int),.int .u64 (ac:Int),.bool r,.rsl 1 b.length .u8 b] 2
    have h6:=cs_nth hsl [.int .i64 sp,.rsl 1 to.length .u8 to,.rsl 1 fr.length .u8 fr,.int .u64 (pn:Int),.int .u64 (ac:Int),.bool r,.rsl 1 b.length .u8 b] 6
    simp only[nth,Nat.reduceAdd]at h1 h2 h6
    simp only[lngF,h1,h2,h6,vl]
  generalize hbl:(decide (50<to.length)||decide (50<fr.length)||decide (120<b.length))=bl
  rw[hbl]at fL
  simp only[s12,s31,s32,s35,s13,s33,s37,sOp]
  by_cases hml:150<z.length
  · have c1:(150:Int)<(z.length:Int):=by omega
    cases bl <;>
    · simp only[ir10,rs10,gl,pA,fA,hlen,hsub,hagc,↓purs_cs,↓frzs_cs,qL,fL,c1,sub_zero,qdb,qai,List.length_cons,List.length_nil,Nat.reduceAdd,Nat.le_refl,Nat.reduceLeDiff,Nat.reduceLT,true_and,and_true,↓evA,evB,evs,evp,mkB,repB,blen,↓retQ,res,resAll,resOne,kill,apartOk,exp,injV,injB,pur,purs,purR,pursR,List.reduceReplicate,Nat.reduceMul,Nat.reduceSub,Nat.reduceEqDiff,Int.reduceToNat,Int.reduceLE,Int.reduceLT,Int.reduceEq,reduceCtorEq,↓reduceIte]
      exact out_bool rfl
  have c1:¬(150:Int)<(z.length:Int):=by omega
  cases bl with
  | true =>
    simp only[ir10,rs10,gl,pA,fA,hlen,hsub,hagc,↓purs_cs,↓frzs_cs,qL,fL,c1,sub_zero,qdb,qai,List.length_cons,List.length_nil,Nat.reduceAdd,Nat.le_refl,Nat.reduceLeDiff,Nat.reduceLT,true_and,and_true,↓evA,evB,evs,evp,mkB,repB,blen,↓retQ,res,resAll,resOne,kill,apartOk,exp,injV,injB,pur,purs,purR,pursR,List.reduceReplicate,Nat.reduceMul,Nat.reduceSub,Nat.reduceEqDiff,Int.reduceToNat,Int.reduceLE,Int.reduceLT,Int.reduceEq,reduceCtorEq,↓reduceIte]
    exact out_bool rfl
  | false =>
  simp only[Bool.or_eq_false_iff,decide_eq_false_iff_not]at hbl
  obtain⟨⟨l1,l2⟩,l3⟩:=hbl
  have qH:preHd [.v (.agg (cs s [.int .i64 sp,.rsl 1 to.length .u8 to,.rsl 1 fr.length .u8 fr,.int .u64 (pn:Int),.int .u64 (ac:Int),.bool true,.rsl 1 b.length .u8 b]))]:=⟨s,to,fr,b,sp,pn,ac,rfl,hsl,hsp,by omega,by omega,hpn⟩
  have fH:hdF [.v (.agg (cs s [.int .i64 sp,.rsl 1 to.length .u8 to,.rsl 1 fr.length .u8 fr,.int .u64 (pn:Int),.int .u64 (ac:Int),.bool true,.rsl 1 b.length .u8 b]))] =
      ⟨[some 3,none,none],[.v (.int .i64 (sp3 sp:Nat)),.s .u8 (p8 to),.s .u8 (p8 fr),.v (.int .u64 (pnR (pn:Int):Nat)),.v (.int .u64 (acR (pn:Int) (ac:Int):Nat))]⟩:=by
    have h0:=cs_nth hsl [.int .i64 sp,.rsl 1 to.length .u8 to,.rsl 1 fr.length .u8 fr,.int .u64 (pn:Int),.int .u64 (ac:Int),.bool true,.rsl 1 b.length .u8 b] 0
    have h1:=cs_nth hsl [.int .i64 sp,.rsl 1 to.length .u8 to,.rsl 1 fr.length .u8 fr,.int .u64 (pn:Int),.int .u64 (ac:Int),.bool true,.rsl 1 b.length .u8 b] 1
    have h2:=cs_nth hsl [.int .i64 sp,.rsl 1 to.length .u8 to,.rsl 1 fr.length .u8 fr,.int .u64 (pn:Int),.int .u64 (ac:Int),.bool true,.rsl 1 b.length .u8 b] 2
    have h3:=cs_nth hsl [.int .i64 sp,.rsl 1 to.length .u8 to,.rsl 1 fr.length .u8 fr,.int .u64 (pn:Int),.int .u64 (ac:Int),.bool true,.rsl 1 b.length .u8 b] 3
    have h4:=cs_nth hsl [.int .i64 sp,.rsl 1 to.length .u8 to,.rsl 1 fr.length .u8 fr,.int .u64 (pn:Int),.int .u64 (ac:Int),.bool true,.rsl 1 b.length .u8 b] 4
    simp only[nth,Nat.reduceAdd]at h0 h1 h2 h3 h4
    simp only[hdF,h0,h1,h2,h3,h4,vxs,vn]
  have hTd:Dig 256 (p8 to):=p8_dig hto
  have hRd:Dig 256 (p8 fr):=p8_dig hfr
  have hTl:(p8 to).length=8:=p8_len to
  have hRl:(p8 fr).length=8:=p8_len fr
  have hz3:sp3 sp<3:=by unfold sp3;omega
  have hP:pnR (pn:Int)<4611686018427387904:=by unfold pnR;exact Nat.mod_lt _ (by decide)
  have hQ:acR (pn:Int) (ac:Int)≤pnR (pn:Int)∧pnR (pn:Int)-acR (pn:Int) (ac:Int)<70000:=by
    unfold acR
    have:(ac:Int).toNat%70000<70000:=Nat.mod_lt _ (by decide)
    omega
  generalize hT:p8 to=T
  generalize hR:p8 fr=R
  generalize hz:sp3 sp=z3
  generalize hPe:pnR (pn:Int)=P
  generalize hQe:acR (pn:Int) (ac:Int)=Q
  rw[hT,hR,hz,hPe,hQe]at fH
  rw[hT]at hTd hTl
  rw[hR]at hRd hRl
  rw[hz]at hz3
  rw[hPe]at hP hQ
  rw[hQe]at hQ
  have hE:expT 10 ⟨[some 3,none,none],[.v (.int .i64 (z3:Int)),.s .u8 T,.s .u8 R,.v (.int .u64 (P:Int)),.v (.int .u64 (Q:Int))]⟩ =
      ⟨.tup [.agg [.int .i64 (z3:Int),.slice 10 0 1 8 8,.slice 11 0 1 8 8],.int .u64 (P:Int),.int .u64 (Q:Int)],[],[.ints false .u8 T,.ints false .u8 R]⟩:=by
    simp[expT,fold,injV,injB,hTl,hRl]
  have qP:prePl [.v (.int .i64 (z3:Int))]:=⟨z3,rfl,hz3⟩
  have fP:F35 [.v (.int .i64 (z3:Int))]=.one (.v (.int .i64 (atF (z3:Int):Nat))):=by
    rcases (by omega:z3=0∨z3=1∨z3=2)with rfl | rfl | rfl<;>rfl
  have q1:preSec [.v (.ints .u8 s)]:=⟨_,rfl,hs⟩
  have f1:F13 [.v (.ints .u8 s)]=.one (.v (.ints .u8 (gkeys s))):=rfl
  have hK:K44 (gkeys s):=⟨gkeys_len s,gkeys_dig s⟩
  generalize hk:gkeys s=k
  rw[hk]at f1 hK
  have hkl:=hK.1
  have sk:sub k 0 44=k:=sub_zero hkl
  have pk:spl (List.replicate 44 0) 0 k=k:=qdb (by simp[hkl])
  simp only[List.reduceReplicate]at pk
  have sT:sub T 0 8=T:=sub_zero hTl
  have sR:sub R 0 8=R:=sub_zero hRl
  have hag:agI [V.int .i64 (z3:Int),.slice 10 0 1 8 8,.slice 11 0 1 8 8]=.agg [V.int .i64 (z3:Int),.slice 10 0 1 8 8,.slice 11 0 1 8 8]:=rfl
  have hs3:sub [V.int .i64 (z3:Int),.slice 10 0 1 8 8,.slice 11 0 1 8 8] 0 3=[V.int .i64 (z3:Int),.slice 10 0 1 8 8,.slice 11 0 1 8 8]:=rfl
  have hpr:pursR [V.int .i64 (z3:Int),.slice 10 0 1 8 8,.slice 11 0 1 8 8]=false:=rfl
  have hsp3:spl [V.int .i64 0,.nils,.nils] 0 [V.int .i64 (z3:Int),.slice 10 0 1 8 8,.slice 11 0 1 8 8]=[V.int .i64 (z3:Int),.slice 10 0 1 8 8,.slice 11 0 1 8 8]:=rfl
  have q1o:preSec [.v (.ints .u8 o)]:=⟨_,rfl,ho⟩
  have f1o:F13 [.v (.ints .u8 o)]=.one (.v (.ints .u8 (gkeys o))):=rfl
  have hK2:K44 (gkeys o):=⟨gkeys_len o,gkeys_dig o⟩
  generalize gkeys o=k2 at *
  have hk2l:=hK2.1
  have sk2:sub k2 0 44=k2:=sub_zero hk2l
  have pk2:spl k 0 k2=k2:=qdb (by omega)
  have so:sub o 0 32=o:=sub_zero hol
  have hok:hdOK (z3:Int) T R=true:=hdOK_iff.2 ⟨hTl,by omega,by omega,.inr hRl⟩
  have q2:preGS [.v (.ints .u8 k),.v (.agg [.int .i64 (z3:Int),.rsl 1 8 .u8 T,.rsl 1 8 .u8 R]),.v (.int .u64 (P:Int)),.v (.int .u64 (Q:Int)),.s .u8 b] :=
    ⟨k,z3,_,_,P,Q,b,rfl,hK,.inr (by rw[vxs,hTl]),hTd,.inr (by rw[vxs,hRl]),hRd,hb,by omega⟩
  have f2:F33 [.v (.ints .u8 k),.v (.agg [.int .i64 (z3:Int),.rsl 1 8 .u8 T,.rsl 1 8 .u8 R]),.v (.int .u64 (P:Int)),.v (.int .u64 (Q:Int)),.s .u8 b]=.many [.s .u8 (pktX k (z3:Int) T R P Q b),.v (.int .i64 (pktE (z3:Int) T R P Q))]:=rfl
  have hpb:pktB (z3:Int) T R P Q=true:=by simp[pktB,hok,hP,hQ.1]
  rw[pktX,pktE,hpb,if_pos rfl,if_pos rfl]at f2
  have hback:=pktG_back (more:=[]) (x:=P) hK hok hTd hRd hQ.1 (Nat.le_refl P) hP (by omega) hb rfl rfl
  have hXd:Dig 256 (pktG k (z3:Int) T R P (shortN (P-Q)) b):=hidF_dig (((hdB_dig hTd hRd _ _).append (nmb_dig _ _ _)).append (seal_dig _ _ _ _)) _ false
  have t1:=hback.1
  have t2:=hback.2.1
  clear hback
  generalize pktG k (z3:Int) T R P (shortN (P-Q)) b=X at *
  generalize he:X.length=e at *
  have hal:=atF_le (z3:Int)
  generalize atF (z3:Int)=a at *
  have sX:sub X 0 e=X:=sub_zero he
  -- a bit is turned
  have wu:Go.IntKind.u64.wrap bit=((bit%18446744073709551616).toNat:Int):=by rw[wrap_u64];omega
  generalize (bit%18446744073709551616).toNat=u at *
  have we8:Go.IntKind.i64.wrap (8*(e:Int))=((8*e:Nat):Int):=by rw[wrap_i64];omega
  have wu8:Go.IntKind.u64.wrap ((8*e:Nat):Int)=((8*e:Nat):Int):=by rw[wrap_u64];omega
  have nz:¬((8*e:Nat):Int)=0:=by omega
  have wm:(u:Int).tmod ((8*e:Nat):Int)=((u%(8*e):Nat):Int):=tmod_nat
  have hul:u%(8*e)<8*e:=Nat.mod_lt _ (by omega)
  generalize u%(8*e)=v at *
  have wv:Go.IntKind.i64.wrap (v:Int)=(v:Int):=by rw[wrap_i64];omega
  have n8:¬(8:Int)=0:=by decide
  have wd8:Go.IntKind.i64.wrap ((v:Int).tdiv 8)=((v/8:Nat):Int):=by rw[Int.tdiv_eq_ediv_of_nonneg (by omega),wrap_i64];omega
  have wm8:(v:Int).tmod 8=((v%8:Nat):Int):=tmod_nat (k:=8)
  have wm8':Go.IntKind.i64.wrap ((v%8:Nat):Int)=((v%8:Nat):Int):=by rw[wrap_i64];omega
  have hv8:v/8<e:=by omega
  have hX2d:Dig 256 (X.set (v/8) (bXor .u8 (getI X (v/8)) (iShl .u8 1 ((v%8:Nat):Int)))):=hXd.set _ (x8_bd _ _).1 (x8_bd _ _).2
  have hX2l:(X.set (v/8) (bXor .u8 (getI X (v/8)) (iShl .u8 1 ((v%8:Nat):Int)))).length=e:=by rw[List.length_set,he]
  generalize hX2:X.set (v/8) (bXor .u8 (getI X (v/8)) (iShl .u8 1 ((v%8:Nat):Int)))=X2 at *
  have sX2:sub X2 0 e=X2:=sub_zero hX2l
  -- the number that is awaited
  have wx:(x:Int).tmod 4611686018427387904=((x%4611686018427387904:Nat):Int):=tmod_nat (k:=4611686018427387904)
  have hy:x%4611686018427387904<4611686018427387904:=Nat.mod_lt _ (by decide)
  generalize x%4611686018427387904=y at *
  have nx:¬(4611686018427387904:Int)=0:=by decide
  have w3:(w:Int).tmod 3=((w%3:Nat):Int):=tmod_nat (k:=3)
  have w2:(w:Int).tmod 2=((w%2:Nat):Int):=tmod_nat (k:=2)
  have w5:(w:Int).tmod 5=((w%5:Nat):Int):=tmod_nat (k:=5)
  have w7:(w:Int).tmod 7=((w%7:Nat):Int):=tmod_nat (k:=7)
  generalize w%3=m3 at *
  generalize w%2=m2 at *
  generalize w%5=m5 at *
  generalize w%7=m7 at *
  have qO:∀(k b:List Int) (a e:Int) (x:Nat),K44 k→Dig 256 b→b.length≤900→x<4611686018427387904→preOp [.v (.ints .u8 k),.s .u8 b,.v (.int .i64 a),.v (.int .i64 e),.v (.int .u64 (x:Int))]:=fun k b a e x h1 h2 h3 h4=>⟨k,b,a,e,x,rfl,h1,h2,by omega,h4⟩
  have qD:∀(k b:List Int) (a e:Int) (x:Nat),K44 k→Dig 256 b→b.length≤900→x<4611686018427387904→preOpd [.v (.ints .u8 k),.s .u8 b,.v (.int .i64 a),.v (.int .i64 e),.v (.int .u64 (x:Int))]:=fun k b a e x h1 h2 h3 h4=>⟨k,b,a,e,x,rfl,h1,h2,h3,h4⟩
  have fO:∀(k b:List Int) (a e:Int) (x:Nat),FOp [.v (.ints .u8 k),.s .u8 b,.v (.int .i64 a),.v (.int .i64 e),.v (.int .u64 (x:Int))]=.many [.v (.int .u64 ((opnR k b a e x).1:Nat)),.s .u8 (opnR k b a e x).2.1,.v (.int .i64 (opnR k b a e x).2.2)]:=fun _ _ _ _ _=>rfl
  have hz9:z.length≤900:=by omega
  have he9:e≤900:=by omega
  by_cases c7:(m7:Int)=6<;>by_cases c3:(0:Int)<(m3:Int)<;>by_cases c2:(m2:Int)=0<;>by_cases c5:(m5:Int)=0 <;>
  · simp only[ir10,rs10,gl,pA,fA,hlen,hsub,hagc,↓purs_cs,↓frzs_cs,qL,fL,c1,hup,qH,fH,hE,↓z_sRT,hTl,hRl,hag,↓hpr,sT,sR,hsp3,hs3,hs32,hags,hsl,hol,so,q1,f1,q1o,f1o,hkl,pk,sk,hk2l,pk2,sk2,hn6,q2,f2,he,qP,fP,sX,hX2,hX2l,sX2,wu,we8,wu8,nz,wm,wv,n8,wd8,wm8,wm8',hv8,wx,nx,w3,w2,w5,w7,c2,c3,c5,c7,sb,sz,qO,qD,fO,hK,hK2,hz0,hz9,hXd,hX2d,he9,hy,hP,sub_zero,qdb,qai,List.length_cons,List.length_nil,Nat.reduceAdd,Nat.le_refl,Nat.reduceLeDiff,Nat.reduceLT,true_and,and_true,↓evA,evB,evs,evp,mkB,repB,blen,↓retQ,res,resAll,resOne,kill,apartOk,exp,injV,injB,pur,purs,purR,pursR,List.reduceReplicate,Nat.reduceMul,Nat.reduceSub,Nat.reduceEqDiff,Int.reduceToNat,Int.reduceLE,Int.reduceLT,Int.reduceEq,reduceCtorEq,↓reduceIte]
    repeat(first | exact out_bool rfl | refine And.intro (by omega) ?_)
end Am
