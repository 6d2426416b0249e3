/-
Working texts: contracts of functions, and the numbers behind them.
-/
import Derived.Test.YtcefobjfkmfmiaaDoorGsA
import Derived.Test.YtcefobjfkmfmiaaDoorGcM
import Derived.Test.YtcefobjfkmfmiaaDoorGkA
set_option linter.unusedSimpArgs false
set_option linter.unusedVariables false
set_option linter.unusedSectionVars false
set_option maxRecDepth 20000
namespace Am
open Go.Proofs
/-! ### A packet, sealed as the document says -/
def pdV (l:Nat):Nat→V
  | 0=>.slice 4 0 1 l l
  | j+1=>.slice 7 0 1 (l+(j+1)) (l+(j+1))
def pdB (b:List Int):Nat→List Blk
  | 0=>[]
  | j+1=>[.ints false .u8 (b++List.replicate (j+1) 0)]
theorem pdV_0 {l:Nat}:pdV l 0=.slice 4 0 1 l l:=by rw[pdV]
theorem pdV_s {l j:Nat}:pdV l (j+1)=.slice 7 0 1 (l+(j+1)) (l+(j+1)):=by rw[pdV]
theorem pdB_0 {b:List Int}:pdB b 0=[]:=by rw[pdB]
theorem pdB_s {b:List Int} {j:Nat}:pdB b (j+1)=[.ints false .u8 (b++List.replicate (j+1) 0)]:=by rw[pdB]
def fbq (sp:Int) (n:Nat):Int:=if sp=2 then fb n else fbl sp n
theorem fbq_facts {sp:Int} (h0:0≤sp) (h3:sp<3):∀n:Nat,1≤n→n≤4→hnum (fbq sp n)=n∧hbits (fbq sp n)=if sp=2 then 31 else 15:=fun n h1 h4=>by
  rcases (by omega:sp=0∨sp=1∨sp=2)with rfl | rfl | rfl <;>
  rcases (by omega:n=1∨n=2∨n=3∨n=4)with rfl | rfl | rfl | rfl<;>decide +kernel
theorem hdB_q (sp:Int) (to fr:List Int) (n m:Nat) (S:List Int):getI (hdB sp to fr n m++S) 0=fbq sp n:=by
  unfold hdB fbq
  split
  · rfl
  split<;>rfl
def F34:List D→Out
  | [.v (.ints _ k),.v (.agg [.int _ sp,T,R]),.v (.int _ pn),.v (.int _ ac),.s _ b]=>.many [.s .u8 (pktX k sp (vxs T) (vxs R) pn.toNat ac.toNat b),.v (.int .i64 (pktE sp (vxs T) (vxs R) pn.toNat ac.toNat))]
  | _=>bad
def s34:Summ:=sData [.v,.r,.v,.v,.s .u8] preGS F34
set_option maxHeartbeats 16000000 in
theorem ok34 {g:List Blk} [Ge gl g]:SumOK Tryd.prog g 34 s34∧SumAbs s34:=by
  refine fsumA (l:=[(52,s52),(53,s53),(54,s54),(56,s56),(55,s55)]) mixed gl_plain rfl Tryd.func34 comp34 compR34 nt34 (by simp only[List.mem_cons,List.not_mem_nil,or_false,forall_eq_or_imp,forall_eq];exact⟨ok52,ok53,ok54,ok56,ok55⟩) fun ds ⟨k,sp,T,R,pn,ac,b,hd,hk,hT,htd,hR,hrd,hb,hbl⟩ hA=>?_
  subst hd
  have hkl:=hk.1
  have hF:F34 [.v (.ints .u8 k),.v (.agg [.int .i64 sp,T,R]),.v (.int .u64 (pn:Int)),.v (.int .u64 (ac:Int)),.s .u8 b]=.many [.s .u8 (pktX k sp (vxs T) (vxs R) pn ac b),.v (.int .i64 (pktE sp (vxs T) (vxs R) pn ac))]:=rfl
  have hpT:=hT.pur
  have hgT:=hT.gc
  have hpR:=hR.pur
  have hgR:=hR.gc
  have hag:agI [V.int .i64 sp,T,R]=.agg [V.int .i64 sp,T,R]:=by
    rcases hT with h | h<;>rcases hR with h' | h'<;>rw[h,h']<;>rfl
  have hpr3:pursR [V.int .i64 sp,T,R]=true:=by simp[pursR,purR,hpT,hpR]
  have hs3:sub [V.int .i64 sp,T,R] 0 3=[V.int .i64 sp,T,R]:=rfl
  have bad:∀h:pktB sp (vxs T) (vxs R) pn ac=false,F34 [.v (.ints .u8 k),.v (.agg [.int .i64 sp,T,R]),.v (.int .u64 (pn:Int)),.v (.int .u64 (ac:Int)),.s .u8 b]=.many [.s .u8 [],.v (.int .i64 2)]:=fun h=>by
    rw[hF,pktX,pktE,h];rfl
  have good:∀h:pktB sp (vxs T) (vxs R) pn ac=true,F34 [.v (.ints .u8 k),.v (.agg [.int .i64 sp,T,R]),.v (.int .u64 (pn:Int)),.v (.int .u64 (ac:Int)),.s .u8 b]=.many [.s .u8 (pktG k sp (vxs T) (vxs R) pn (shortN (pn-ac)) b),.v (.int .i64 0)]:=fun h=>by
    rw[hF,pktX,pktE,h];rfl
  clear hF
  by_cases hpn:pn<4611686018427387904
  case neg =>
    have hF:=bad (by simp[pktB,hpn])
    have c1:(4611686018427387903:Int)<(pn:Int):=by omega
    simp only[ir34,rs34,gl,hF,c1,sub_zero,qdb,qai,List.length_cons,List.length_nil,Nat.reduceAdd,Nat.le_refl,Nat.reduceLeDiff,Nat.reduceLT,true_and,and_true,↓evA,evB,evs,evp,mkB,repB,blen,↓retQ,res,resAll,resOne,kill,apartOk,exp,injV,injB,pur,purs,purR,pursR,List.reduceReplicate,Nat.reduceMul,Nat.reduceSub,Nat.reduceEqDiff,Int.reduceToNat,Int.reduceLE,Int.reduceLT,Int.reduceEq,reduceCtorEq,↓reduceIte]
    simp[out,outs,out1,pur]
  have c1:¬(4611686018427387903:Int)<(pn:Int):=by omega
  by_cases hac:ac≤pn
  case neg =>
    have hF:=bad (by simp[pktB,hac])
    have c2:(pn:Int)<(ac:Int):=by omega
    simp only[ir34,rs34,gl,hF,c1,c2,sub_zero,qdb,qai,List.length_cons,List.length_nil,Nat.reduceAdd,Nat.le_refl,Nat.reduceLeDiff,Nat.reduceLT,true_and,and_true,↓evA,evB,evs,evp,mkB,repB,blen,↓retQ,res,resAll,resOne,kill,apartOk,exp,injV,injB,pur,purs,purR,pursR,List.reduceReplicate,Nat.reduceMul,Nat.reduceSub,Nat.reduceEqDiff,Int.reduceToNat,Int.reduceLE,Int.reduceLT,Int.reduceEq,reduceCtorEq,↓reduceIte]
    simp[out,outs,out1,pur]
  have c2:¬(pn:Int)<(ac:Int):=by omega
  have q1:preShort [.v (.int .u64 (pn:Int)),.v (.int .u64 (ac:Int))]:=⟨pn,ac,rfl,hac,hpn⟩
  have f1:F52 [.v (.int .u64 (pn:Int)),.v (.int .u64 (ac:Int))]=.one (.v (.int .i64 (shortN (pn-ac):Nat))):=rfl
  have hn:=shortN_le (pn-ac)
  generalize hne:shortN (pn-ac)=n at *
  have hpe:padF n b=if n+b.length<4 then b++List.replicate (4-n-b.length) 0 else b:=rfl
  obtain⟨hpd,hp4,hpl⟩:=padF_ok (n:=n) hb hn.1
  have hP:pktG k sp (vxs T) (vxs R) pn n b=hidF k (hdN sp (vxs T) (vxs R) pn n b++sealF (sub k 0 16) (nonF k pn) (hdN sp (vxs T) (vxs R) pn n b) (padF n b)) (atF sp) false:=rfl
  have hHe:hdN sp (vxs T) (vxs R) pn n b=hdB sp (vxs T) (vxs R) n (n+((padF n b).length+16))++nmb (pn:Int) n n:=rfl
  generalize hpp:padF n b=p at *
  have wp:Go.IntKind.i64.wrap ((p.length:Int)+16)=((p.length+16:Nat):Int):=by rw[wrap_i64];omega
  have q2:prePut [.v (.agg [.int .i64 sp,T,R]),.v (.int .u64 (pn:Int)),.v (.int .i64 (n:Int)),.v (.int .i64 ((p.length+16:Nat):Int))]:=⟨sp,T,R,pn,n,p.length+16,rfl,hT,hR,hn.1,hn.2,by omega⟩
  have f2:F53 [.v (.agg [.int .i64 sp,T,R]),.v (.int .u64 (pn:Int)),.v (.int .i64 (n:Int)),.v (.int .i64 ((p.length+16:Nat):Int))]=.many [.s .u8 (putX sp (vxs T) (vxs R) pn n (n+(p.length+16))),.v (.int .i64 (putE sp (vxs T) (vxs R)))]:=rfl
  have sb:=qdd b
  have sp':=qdd p
  have sk:sub k 0 44=k:=sub_zero hkl
  have hFx:∃o,F34 [.v (.ints .u8 k),.v (.agg [.int .i64 sp,T,R]),.v (.int .u64 (pn:Int)),.v (.int .u64 (ac:Int)),.s .u8 b]=o:=⟨_,rfl⟩
  obtain⟨o,hFo⟩:=hFx
  simp only[s52,s53,s54,s56,s55]
  simp only[ir34,rs34,gl,hFo,c1,c2,q1,f1,sub_zero,qdb,qai,List.length_cons,List.length_nil,Nat.reduceAdd,Nat.le_refl,Nat.reduceLeDiff,Nat.reduceLT,true_and,and_true,↓evA,evB,evs,evp,mkB,repB,blen,↓retQ,res,resAll,resOne,kill,apartOk,exp,injV,injB,pur,purs,purR,pursR,List.reduceReplicate,Nat.reduceMul,Nat.reduceSub,Nat.reduceEqDiff,Int.reduceToNat,Int.reduceLE,Int.reduceLT,Int.reduceEq,reduceCtorEq,↓reduceIte]
  refine awp_loopA (n:=128) hA [2,4,5,6,12] (by decide +kernel) (fun j:Nat=>[.int .u64 (pn:Int),pdV b.length j,.ptr 5 0,.ptr 6 0,.int .i64 (n:Int)])
    (fun j=>[.ints true .u64 roots,.dead,.dead,.dead,.ints true .u8 b,.ints false .u8 k,.cells false [.int .i64 sp,T,R]]++pdB b j) (fun j=>j=0∨n+b.length+j≤4) (fun j=>4-j) 0 ?_ (.inl rfl) ?_
  · refine Hd.same ?_
    simp only[pdV_0,pdB_0,↓evA,evB,evs,evp,mkB,repB,blen,↓retQ,res,resAll,resOne,kill,apartOk,exp,injV,injB,pur,purs,purR,pursR,List.reduceReplicate,Nat.reduceAdd,Nat.reduceMul,Nat.reduceSub,Nat.reduceEqDiff,Nat.reduceLT,Int.reduceToNat,Int.reduceLE,Int.reduceLT,Int.reduceEq,reduceCtorEq,↓reduceIte]
  intro j hj K hK
  simp only[s52,s53,s54,s56,s55]
  by_cases hlj:n+(b.length+j)<4
  · have d1:((n+(b.length+j):Nat):Int)<4:=by omega
    have wl:Go.IntKind.i64.wrap ((n:Int)+((b.length+j:Nat):Int))=((n+(b.length+j):Nat):Int):=by rw[wrap_i64];omega
    cases j with
    | zero =>
      simp only[Nat.add_zero]at d1 wl
      simp only[pdV_0,pdB_0,d1,wl,sb,sub_zero,qdb,qai,List.length_cons,List.length_nil,Nat.reduceAdd,Nat.le_refl,Nat.reduceLeDiff,Nat.reduceLT,true_and,and_true,↓evA,evB,evs,evp,mkB,repB,blen,↓retQ,res,resAll,resOne,kill,apartOk,exp,injV,injB,pur,purs,purR,pursR,List.reduceReplicate,Nat.reduceMul,Nat.reduceSub,Nat.reduceEqDiff,Int.reduceToNat,Int.reduceLE,Int.reduceLT,Int.reduceEq,reduceCtorEq,↓reduceIte]
      repeat(refine And.intro (by omega) ?_)
      refine⟨0+1,hK _ (.inr (by omega)) (by omega),Hd.of [0,1,2,3,4,5,6,10] (by decide) (by decide) (by simp) ?_⟩
      simp only[pdV_s,pdB_s,hgT,hgR,Nat.zero_add,List.replicate_one,gc,gcVs,gcV,posOf,gcH,gcB,Option.map_some,Option.map_none,List.replicate_zero,List.drop_zero,↓evA,evB,evs,evp,mkB,repB,blen,↓retQ,res,resAll,resOne,kill,apartOk,exp,injV,injB,pur,purs,purR,pursR,List.reduceReplicate,Nat.reduceAdd,Nat.reduceMul,Nat.reduceSub,Nat.reduceEqDiff,Nat.reduceLT,Int.reduceToNat,Int.reduceLE,Int.reduceLT,Int.reduceEq,reduceCtorEq,↓reduceIte]
    | succ j =>
      have hl2:(b++List.replicate (j+1) 0).length=b.length+(j+1):=by simp
      have hs2:b++List.replicate (j+1) 0++[0]=b++List.replicate (j+1+1) (0:Int):=by rw[List.append_assoc,←List.replicate_succ']
      have so:sub (b++List.replicate (j+1) 0) 0 (b.length+(j+1))=b++List.replicate (j+1) (0:Int):=sub_zero hl2
      have hra:b.length+(j+1+1)=b.length+(j+1)+1:=by omega
      generalize hge:b++List.replicate (j+1) (0:Int)=y at *
      simp only[pdV_s,pdB_s,hge,d1,wl,hl2,so,sub_zero,qdb,qai,List.length_cons,List.length_nil,Nat.reduceAdd,Nat.le_refl,Nat.reduceLeDiff,Nat.reduceLT,true_and,and_true,↓evA,evB,evs,evp,mkB,repB,blen,↓retQ,res,resAll,resOne,kill,apartOk,exp,injV,injB,pur,purs,purR,pursR,List.reduceReplicate,Nat.reduceMul,Nat.reduceSub,Nat.reduceEqDiff,Int.reduceToNat,Int.reduceLE,Int.reduceLT,Int.reduceEq,reduceCtorEq,↓reduceIte]
      repeat(refine And.intro (by omega) ?_)
      refine⟨j+1+1,hK _ (.inr (by omega)) (by omega),Hd.of [0,1,2,3,4,5,6,11] (by decide) (by decide) (by simp) ?_⟩
      simp only[pdV_s,pdB_s,hgT,hgR,hs2,hra,gc,gcVs,gcV,posOf,gcH,gcB,Option.map_some,Option.map_none,List.replicate_zero,List.drop_zero,↓evA,evB,evs,evp,mkB,repB,blen,↓retQ,res,resAll,resOne,kill,apartOk,exp,injV,injB,pur,purs,purR,pursR,List.reduceReplicate,Nat.reduceAdd,Nat.reduceMul,Nat.reduceSub,Nat.reduceEqDiff,Nat.reduceLT,Int.reduceToNat,Int.reduceLE,Int.reduceLT,Int.reduceEq,reduceCtorEq,↓reduceIte]
  have d1:¬((n+(b.length+j):Nat):Int)<4:=by omega
  have wl:Go.IntKind.i64.wrap ((n:Int)+((b.length+j:Nat):Int))=((n+(b.length+j):Nat):Int):=by rw[wrap_i64];omega
  have hJ:(j=0∧p=b)∨∃i,j=i+1∧p=b++List.replicate (i+1) 0:=by
    rcases j with _ | i
    · rw[if_neg (by omega)]at hpe;exact .inl ⟨rfl,hpe⟩
    · rcases hj with hj | hj
      · omega
      · rw[if_pos (by omega),show 4-n-b.length=i+1 by omega]at hpe
        exact .inr ⟨i,rfl,hpe⟩
  by_cases hok:hdOK sp (vxs T) (vxs R)=true
  case neg =>
    have hok':hdOK sp (vxs T) (vxs R)=false:=by simpa using hok
    have hF:=bad (by simp[pktB,hok'])
    rw[hFo]at hF
    subst hF
    rw[putX,putE,hok',if_neg (by decide),if_neg (by decide)]at f2
    rcases hJ with ⟨rfl,hJ⟩ | ⟨i,rfl,hJ⟩
    · rw[hJ]at q2 f2 wp
      simp only[Nat.add_zero]at d1 wl
      simp only[pdV_0,pdB_0,d1,wl,hag,hs3,↓hpr3,wp,q2,f2,sb,sub_zero,qdb,qai,List.length_cons,List.length_nil,Nat.reduceAdd,Nat.le_refl,Nat.reduceLeDiff,Nat.reduceLT,true_and,and_true,↓evA,evB,evs,evp,mkB,repB,blen,↓retQ,res,resAll,resOne,kill,apartOk,exp,injV,injB,pur,purs,purR,pursR,List.reduceReplicate,Nat.reduceMul,Nat.reduceSub,Nat.reduceEqDiff,Int.reduceToNat,Int.reduceLE,Int.reduceLT,Int.reduceEq,reduceCtorEq,↓reduceIte]
      simp[out,outs,out1,pur]
    · have hl':b.length+(i+1)=p.length:=by rw[hJ];simp
      rw[hl']at d1 wl
      simp only[pdV_s,pdB_s,←hJ,hl',d1,wl,hag,hs3,↓hpr3,wp,q2,f2,sp',sub_zero,qdb,qai,List.length_cons,List.length_nil,Nat.reduceAdd,Nat.le_refl,Nat.reduceLeDiff,Nat.reduceLT,true_and,and_true,↓evA,evB,evs,evp,mkB,repB,blen,↓retQ,res,resAll,resOne,kill,apartOk,exp,injV,injB,pur,purs,purR,pursR,List.reduceReplicate,Nat.reduceMul,Nat.reduceSub,Nat.reduceEqDiff,Int.reduceToNat,Int.reduceLE,Int.reduceLT,Int.reduceEq,reduceCtorEq,↓reduceIte]
      simp[out,outs,out1,pur]
  have hF:=good (by simp[pktB,hok,hpn,hac])
  rw[hFo]at hF
  subst hF
  rw[putX,putE,hok,if_pos rfl,if_pos rfl,←hHe]at f2
  have hhl:(hdN sp (vxs T) (vxs R) pn n b).length=atF sp+n:=by rw[hHe,List.length_append,hdB_len hok,nmb_len]
  have hhd:Dig 256 (hdN sp (vxs T) (vxs R) pn n b):=by rw[hHe];exact(hdB_dig htd hrd _ _).append (nmb_dig _ _ _)
  have hAt:=atF_le sp
  have h0S:∀S:List Int,getI (hdN sp (vxs T) (vxs R) pn n b++S) 0=fbq sp n:=fun S=>by rw[hHe,List.append_assoc,hdB_q]
  obtain⟨_,o2,o3,_⟩:=hdOK_iff.1 hok
  obtain⟨g1,g2⟩:=fbq_facts o2 o3 n hn.1 hn.2
  generalize atF sp=a at *
  generalize hdN sp (vxs T) (vxs R) pn n b=H at *
  have wat:Go.IntKind.i64.wrap (((a+n:Nat):Int)-(n:Int))=(a:Int):=by rw[wrap_i64];omega
  have hN:B12 (nonF k pn):=nonS_ok hk 8
  have hNz:=nonZ_eq hkl (pn:Int)
  generalize nonF k pn=N at *
  have hK16:B16 (sub k 0 16):=⟨by simp[sub,hkl],sub_dig' hk.2⟩
  have hM28:B16 (sub k 28 16):=⟨by simp[sub,hkl],sub_dig' hk.2⟩
  have hSl:=seal_len (sub k 0 16) N H p
  have hSd:=seal_dig (sub k 0 16) N H p
  have q4:preSR [.s .u8 (boxL 256),.v (.ints .u8 (sub k 0 16)),.v (.ints .u8 N),.s .u8 H,.s .u8 p]:=⟨_,_,_,_,rfl,hK16,hN,hhd,by omega,hpd,by omega⟩
  have f4:F55 [.s .u8 (boxL 256),.v (.ints .u8 (sub k 0 16)),.v (.ints .u8 N),.s .u8 H,.s .u8 p]=.one (.s .u8 (sealF (sub k 0 16) N H p)):=rfl
  generalize sealF (sub k 0 16) N H p=S at *
  have h0:=h0S S
  have hQl:(H++S).length=a+n+(p.length+16):=by rw[List.length_append,hhl,hSl]
  have hQd:Dig 256 (H++S):=hhd.append hSd
  have hS16:B16 (sub (H++S) (a+4) 16):=⟨by simp[sub];omega,sub_dig' hQd⟩
  have hE:=enc_ok hM28 hS16
  have hae2:=aes_eq hM28 hS16
  have qE:preEncR [.s .u8 (boxL 256),.v (.ints .u8 (sub k 28 16)),.v (.ints .u8 (sub (H++S) (a+4) 16))]:=⟨_,_,_,rfl,boxL_ok,hM28,hS16⟩
  have fE:F56 [.s .u8 (boxL 256),.v (.ints .u8 (sub k 28 16)),.v (.ints .u8 (sub (H++S) (a+4) 16))]=.one (.v (.ints .u8 (hmask k (H++S) a))):=by
    show Out.one (.v (.ints .u8 (encR (boxL 256) (sub k 28 16) (sub (H++S) (a+4) 16))))=_
    rw[←hae2];rfl
  have hmB:B16 (hmask k (H++S) a):=hE
  have hcn:hcnt k (H++S) a false=hnum (getI (H++S) 0):=rfl
  rw[h0,g1]at hcn
  have hPf:hidF k (H++S) a false=itr (hidS (hmask k (H++S) a) a) (hfst k (H++S) a) (hcnt k (H++S) a false):=rfl
  rw[hcn,←hP]at hPf
  have hff:hfst k (H++S) a=(H++S).set 0 (bXor .u8 (getI (H++S) 0) (bAnd .u8 (getI (hmask k (H++S) a) 0) (hbits (getI (H++S) 0)))):=rfl
  rw[h0,g2,←h0]at hff
  generalize hQ:H++S=Q at *
  generalize hmask k Q a=m at *
  generalize hf:hfst k Q a=f at *
  generalize hPk:pktG k sp (vxs T) (vxs R) pn n b=Z at *
  generalize hS2:sub Q (a+4) 16=S2 at *
  have hfl:f.length=a+n+(p.length+16):=by rw[hff,List.length_set,hQl]
  have hxl:=boxL_len 256
  have fB:F54 []=.one (.s .u8 (boxL 256)):=rfl
  have qB:preE []:=rfl
  generalize boxL 256=X at *
  have sX:sub X 0 256=X:=sub_zero hxl
  have hm16:=hmB.1
  have pm:spl [0,0,0,0,0,0,0,0,0,0,0,0,0,0,0,0] 0 m=m:=qdb (by simp[hm16])
  generalize hk1:sub k 16 12=k1 at *
  have hk1l:k1.length=12:=by rw[←hk1];simp[sub,hkl]
  have pk1:spl [0,0,0,0,0,0,0,0,0,0,0,0] 0 k1=k1:=qdb (by simp[hk1l])
  generalize hky:sub k 0 16=ky at *
  generalize hk2:sub k 28 16=k2 at *
  have hNl:=hN.1
  have hkyl:=hK16.1
  have sN:sub N 0 12=N:=sub_zero hNl
  have sH:sub H 0 (a+n)=H:=sub_zero hhl
  have sS:sub S 0 (p.length+16)=S:=sub_zero hSl
  have sQ:sub Q 0 (a+n+(p.length+16))=Q:=sub_zero hQl
  have w4:Go.IntKind.i64.wrap ((a:Int)+4)=((a+4:Nat):Int):=by rw[wrap_i64];omega
  have w20:Go.IntKind.i64.wrap ((a:Int)+20)=((a+20:Nat):Int):=by rw[wrap_i64];omega
  have h20:a+20-(a+4)=16:=by omega
  have ez:0<a+n+(p.length+16):=by omega
  rcases hJ with ⟨rfl,hJ⟩ | ⟨i0,rfl,hJ⟩
  · subst hJ
    simp only[Nat.add_zero]at d1 wl
    simp only[pdV_0,pdB_0,d1,wl,hag,hs3,↓hpr3,wp,q2,f2,sp',hhl,wat,qB,fB,hkl,hk1,hk1l,pk1,sub_zero,qdb,qai,List.length_cons,List.length_nil,Nat.reduceAdd,Nat.le_refl,Nat.reduceLeDiff,Nat.reduceLT,true_and,and_true,↓evA,evB,evs,evp,mkB,repB,blen,↓retQ,res,resAll,resOne,kill,apartOk,exp,injV,injB,pur,purs,purR,pursR,List.reduceReplicate,Nat.reduceMul,Nat.reduceSub,Nat.reduceEqDiff,Int.reduceToNat,Int.reduceLE,Int.reduceLT,Int.reduceEq,reduceCtorEq,↓reduceIte]
    repeat(refine And.intro (by omega) ?_)
    refine awp_loopA (n:=128) hA [2,4,5,6,12,13,15,16,17,62] (by decide +kernel) (fun i:Nat=>[.int .u64 (pn:Int),.slice 4 0 1 p.length p.length,.ptr 5 0,.ptr 6 0,.int .i64 (n:Int),.slice 7 0 1 (a+n) (a+n),.int .i64 (a:Int),.slice 8 0 1 256 256,.ptr 9 0,.int .i64 (i:Int)])
      (fun i=>[.ints true .u64 roots,.dead,.dead,.dead,.ints true .u8 p,.ints false .u8 k,.cells false [.int .i64 sp,T,R],.ints false .u8 H,.ints false .u8 X,.ints false .u8 (itr (nonZ (pn:Int)) k1 i)]) (fun i=>i≤8) (fun i=>8-i) 0 ?_ (by omega) ?_
    · refine Hd.same ?_
      simp only[itr,hxl,show ((0:Nat):Int)=0 from rfl,↓evA,evB,evs,evp,mkB,repB,blen,↓retQ,res,resAll,resOne,kill,apartOk,exp,injV,injB,pur,purs,purR,pursR,List.reduceReplicate,Nat.reduceAdd,Nat.reduceMul,Nat.reduceSub,Nat.reduceEqDiff,Nat.reduceLT,Int.reduceToNat,Int.reduceLE,Int.reduceLT,Int.reduceEq,reduceCtorEq,↓reduceIte]
    intro i hi K2 hK2
    simp only[s52,s53,s54,s56,s55]
    by_cases hli:i<8
    · have d2:(i:Int)<8:=by omega
      have wi:Go.IntKind.i64.wrap ((i:Int)+1)=((i+1:Nat):Int):=by rw[wrap_i64];omega
      have wa:Go.IntKind.i64.wrap (11-(i:Int))=((11-i:Nat):Int):=by rw[wrap_i64];omega
      have wb:Go.IntKind.i64.wrap (8*(i:Int))=((8*i:Nat):Int):=by rw[wrap_i64];omega
      have hyl:(itr (nonZ (pn:Int)) k1 i).length=12:=by rw[nonZ_len,hk1l]
      have hz:(itr (nonZ (pn:Int)) k1 i).set (11-i) (bXor .u8 (getI (itr (nonZ (pn:Int)) k1 i) (11-i)) (Go.IntKind.u8.wrap (iShr .u64 (pn:Int) ((8*i:Nat):Int))))=itr (nonZ (pn:Int)) k1 (i+1):=rfl
      have e1:11-i<12:=by omega
      generalize itr (nonZ (pn:Int)) k1 i=y at *
      generalize hze:itr (nonZ (pn:Int)) k1 (i+1)=z at *
      simp only[d2,wi,wa,wb,hyl,hz,e1,sub_zero,qdb,qai,List.length_cons,List.length_nil,Nat.reduceAdd,Nat.le_refl,Nat.reduceLeDiff,Nat.reduceLT,true_and,and_true,↓evA,evB,evs,evp,mkB,repB,blen,↓retQ,res,resAll,resOne,kill,apartOk,exp,injV,injB,pur,purs,purR,pursR,List.reduceReplicate,Nat.reduceMul,Nat.reduceSub,Nat.reduceEqDiff,Int.reduceToNat,Int.reduceLE,Int.reduceLT,Int.reduceEq,reduceCtorEq,↓reduceIte]
      repeat(refine And.intro (by omega) ?_)
      refine⟨i+1,hK2 _ (by omega) (by omega),Hd.same ?_⟩
      simp only[hze,↓evA,evB,evs,evp,mkB,repB,blen,↓retQ,res,resAll,resOne,kill,apartOk,exp,injV,injB,pur,purs,purR,pursR,List.reduceReplicate,Nat.reduceAdd,Nat.reduceMul,Nat.reduceSub,Nat.reduceEqDiff,Nat.reduceLT,Int.reduceToNat,Int.reduceLE,Int.reduceLT,Int.reduceEq,reduceCtorEq,↓reduceIte]
    obtain rfl:i=8:=by omega
    have d2:¬((8:Nat):Int)<8:=by omega
    rw[hNz]
    by_cases h2:sp=2
    · have hff2:Q.set 0 (bXor .u8 (getI Q 0) (bAnd .u8 (getI m 0) 31))=f:=by rw[hff,if_pos h2]
      simp only[d2,h2,sX,hxl,hky,hkyl,hNl,sN,sH,sp',q4,f4,hhl,hSl,sS,hQ,hQl,w4,w20,h20,hk2,hS2,hS16.1,qE,fE,hm16,pm,ez,hff2,hfl,hkl,sub_zero,qdb,qai,List.length_cons,List.length_nil,Nat.reduceAdd,Nat.le_refl,Nat.reduceLeDiff,Nat.reduceLT,true_and,and_true,↓evA,evB,evs,evp,mkB,repB,blen,↓retQ,res,resAll,resOne,kill,apartOk,exp,injV,injB,pur,purs,purR,pursR,List.reduceReplicate,Nat.reduceMul,Nat.reduceSub,Nat.reduceEqDiff,Int.reduceToNat,Int.reduceLE,Int.reduceLT,Int.reduceEq,reduceCtorEq,↓reduceIte]
      repeat(refine And.intro (by omega) ?_)
      refine awp_loopA (n:=128) hA [13,15,19,110,111] (by decide +kernel) (fun i:Nat=>[.slice 11 0 1 (a+n+(p.length+16)) (a+n+(p.length+16)),.int .i64 (a:Int),.ptr 12 0,.int .i64 (n:Int),.int .i64 (i:Int)])
        (fun i=>[.ints true .u64 roots,.dead,.dead,.dead,.ints true .u8 p,.ints false .u8 k,.cells false [.int .i64 2,T,R],.dead,.ints false .u8 X,.ints false .u8 N,.ints false .u8 S,.ints false .u8 (itr (hidS m a) f i),.ints false .u8 m]) (fun i=>i≤n) (fun i=>n-i) 0 ?_ (by omega) ?_
      · refine Hd.same ?_
        simp only[itr,show ((0:Nat):Int)=0 from rfl,↓evA,evB,evs,evp,mkB,repB,blen,↓retQ,res,resAll,resOne,kill,apartOk,exp,injV,injB,pur,purs,purR,pursR,List.reduceReplicate,Nat.reduceAdd,Nat.reduceMul,Nat.reduceSub,Nat.reduceEqDiff,Nat.reduceLT,Int.reduceToNat,Int.reduceLE,Int.reduceLT,Int.reduceEq,reduceCtorEq,↓reduceIte]
      intro i hi3 K3 hK3
      simp only[s52,s53,s54,s56,s55]
      by_cases hli:i<n
      · have d3:(i:Int)<(n:Int):=by omega
        have wi:Go.IntKind.i64.wrap ((i:Int)+1)=((i+1:Nat):Int):=by rw[wrap_i64];omega
        have wa:Go.IntKind.i64.wrap ((a:Int)+(i:Int))=((a+i:Nat):Int):=by rw[wrap_i64];omega
        have wb:Go.IntKind.i64.wrap (1+(i:Int))=((1+i:Nat):Int):=by rw[wrap_i64];omega
        have hyl:(itr (hidS m a) f i).length=a+n+(p.length+16):=by rw[hidS_len,hfl]
        have hz:(itr (hidS m a) f i).set (a+i) (bXor .u8 (getI (itr (hidS m a) f i) (a+i)) (getI m (1+i)))=itr (hidS m a) f (i+1):=rfl
        have e1:a+i<a+n+(p.length+16):=by omega
        have e2:1+i<16:=by omega
        generalize itr (hidS m a) f i=y at *
        generalize hze:itr (hidS m a) f (i+1)=z at *
        simp only[d3,wi,wa,wb,hyl,hz,hm16,e1,e2,sub_zero,qdb,qai,List.length_cons,List.length_nil,Nat.reduceAdd,Nat.le_refl,Nat.reduceLeDiff,Nat.reduceLT,true_and,and_true,↓evA,evB,evs,evp,mkB,repB,blen,↓retQ,res,resAll,resOne,kill,apartOk,exp,injV,injB,pur,purs,purR,pursR,List.reduceReplicate,Nat.reduceMul,Nat.reduceSub,Nat.reduceEqDiff,Int.reduceToNat,Int.reduceLE,Int.reduceLT,Int.reduceEq,reduceCtorEq,↓reduceIte]
        repeat(refine And.intro (by omega) ?_)
        refine⟨i+1,hK3 _ (by omega) (by omega),Hd.same ?_⟩
        simp only[hze,↓evA,evB,evs,evp,mkB,repB,blen,↓retQ,res,resAll,resOne,kill,apartOk,exp,injV,injB,pur,purs,purR,pursR,List.reduceReplicate,Nat.reduceAdd,Nat.reduceMul,Nat.reduceSub,Nat.reduceEqDiff,Nat.reduceLT,Int.reduceToNat,Int.reduceLE,Int.reduceLT,Int.reduceEq,reduceCtorEq,↓reduceIte]
      obtain rfl:i=n:=by omega
      have d3:¬(i:Int)<(i:Int):=by omega
      have hZl:Z.length=a+i+(p.length+16):=by rw[hPf,hidS_len,hfl]
      have sZ:sub Z 0 (a+i+(p.length+16))=Z:=sub_zero hZl
      rw[←hPf]
      simp only[d3,sub_zero,qdb,qai,List.length_cons,List.length_nil,Nat.reduceAdd,Nat.le_refl,Nat.reduceLeDiff,Nat.reduceLT,true_and,and_true,↓evA,evB,evs,evp,mkB,repB,blen,↓retQ,res,resAll,resOne,kill,apartOk,exp,injV,injB,pur,purs,purR,pursR,List.reduceReplicate,Nat.reduceMul,Nat.reduceSub,Nat.reduceEqDiff,Int.reduceToNat,Int.reduceLE,Int.reduceLT,Int.reduceEq,reduceCtorEq,↓reduceIte]
      simp only[out,outs,out1,pur,hZl,sZ,Nat.zero_add,purs,qcz,qc0,List.not_mem_nil,not_false_eq_true,true_and,and_true,Nat.reduceLeDiff,Nat.le_refl]
    · have hff2:Q.set 0 (bXor .u8 (getI Q 0) (bAnd .u8 (getI m 0) 15))=f:=by rw[hff,if_neg h2]
      simp only[d2,h2,sX,hxl,hky,hkyl,hNl,sN,sH,sp',q4,f4,hhl,hSl,sS,hQ,hQl,w4,w20,h20,hk2,hS2,hS16.1,qE,fE,hm16,pm,ez,hff2,hfl,hkl,sub_zero,qdb,qai,List.length_cons,List.length_nil,Nat.reduceAdd,Nat.le_refl,Nat.reduceLeDiff,Nat.reduceLT,true_and,and_true,↓evA,evB,evs,evp,mkB,repB,blen,↓retQ,res,resAll,resOne,kill,apartOk,exp,injV,injB,pur,purs,purR,pursR,List.reduceReplicate,Nat.reduceMul,Nat.reduceSub,Nat.reduceEqDiff,Int.reduceToNat,Int.reduceLE,Int.reduceLT,Int.reduceEq,reduceCtorEq,↓reduceIte]
      repeat(refine And.intro (by omega) ?_)
      refine awp_loopA (n:=128) hA [13,15,19,110,111] (by decide +kernel) (fun i:Nat=>[.slice 11 0 1 (a+n+(p.length+16)) (a+n+(p.length+16)),.int .i64 (a:Int),.ptr 12 0,.int .i64 (n:Int),.int .i64 (i:Int)])
        (fun i=>[.ints true .u64 roots,.dead,.dead,.dead,.ints true .u8 p,.ints false .u8 k,.cells false [.int .i64 sp,T,R],.dead,.ints false .u8 X,.ints false .u8 N,.ints false .u8 S,.ints false .u8 (itr (hidS m a) f i),.ints false .u8 m]) (fun i=>i≤n) (fun i=>n-i) 0 ?_ (by omega) ?_
      · refine Hd.same ?_
        simp only[itr,show ((0:Nat):Int)=0 from rfl,↓evA,evB,evs,evp,mkB,repB,blen,↓retQ,res,resAll,resOne,kill,apartOk,exp,injV,injB,pur,purs,purR,pursR,List.reduceReplicate,Nat.reduceAdd,Nat.reduceMul,Nat.reduceSub,Nat.reduceEqDiff,Nat.reduceLT,Int.reduceToNat,Int.reduceLE,Int.reduceLT,Int.reduceEq,reduceCtorEq,↓reduceIte]
      intro i hi3 K3 hK3
      simp only[s52,s53,s54,s56,s55]
      by_cases hli:i<n
      · have d3:(i:Int)<(n:Int):=by omega
        have wi:Go.IntKind.i64.wrap ((i:Int)+1)=((i+1:Nat):Int):=by rw[wrap_i64];omega
        have wa:Go.IntKind.i64.wrap ((a:Int)+(i:Int))=((a+i:Nat):Int):=by rw[wrap_i64];omega
        have wb:Go.IntKind.i64.wrap (1+(i:Int))=((1+i:Nat):Int):=by rw[wrap_i64];omega
        have hyl:(itr (hidS m a) f i).length=a+n+(p.length+16):=by rw[hidS_len,hfl]
        have hz:(itr (hidS m a) f i).set (a+i) (bXor .u8 (getI (itr (hidS m a) f i) (a+i)) (getI m (1+i)))=itr (hidS m a) f (i+1):=rfl
        have e1:a+i<a+n+(p.length+16):=by omega
        have e2:1+i<16:=by omega
        generalize itr (hidS m a) f i=y at *
        generalize hze:itr (hidS m a) f (i+1)=z at *
        simp only[d3,wi,wa,wb,hyl,hz,hm16,e1,e2,sub_zero,qdb,qai,List.length_cons,List.length_nil,Nat.reduceAdd,Nat.le_refl,Nat.reduceLeDiff,Nat.reduceLT,true_and,and_true,↓evA,evB,evs,evp,mkB,repB,blen,↓retQ,res,resAll,resOne,kill,apartOk,exp,injV,injB,pur,purs,purR,pursR,List.reduceReplicate,Nat.reduceMul,Nat.reduceSub,Nat.reduceEqDiff,Int.reduceToNat,Int.reduceLE,Int.reduceLT,Int.reduceEq,reduceCtorEq,↓reduceIte]
        repeat(refine And.intro (by omega) ?_)
        refine⟨i+1,hK3 _ (by omega) (by omega),Hd.same ?_⟩
        simp only[hze,↓evA,evB,evs,evp,mkB,repB,blen,↓retQ,res,resAll,resOne,kill,apartOk,exp,injV,injB,pur,purs,purR,pursR,List.reduceReplicate,Nat.reduceAdd,Nat.reduceMul,Nat.reduceSub,Nat.reduceEqDiff,Nat.reduceLT,Int.reduceToNat,Int.reduceLE,Int.reduceLT,Int.reduceEq,reduceCtorEq,↓reduceIte]
      obtain rfl:i=n:=by omega
      have d3:¬(i:Int)<(i:Int):=by omega
      have hZl:Z.length=a+i+(p.length+16):=by rw[hPf,hidS_len,hfl]
      have sZ:sub Z 0 (a+i+(p.length+16))=Z:=sub_zero hZl
      rw[←hPf]
      simp only[d3,sub_zero,qdb,qai,List.length_cons,List.length_nil,Nat.reduceAdd,Nat.le_refl,Nat.reduceLeDiff,Nat.reduceLT,true_and,and_true,↓evA,evB,evs,evp,mkB,repB,blen,↓retQ,res,resAll,resOne,kill,apartOk,exp,injV,injB,pur,purs,purR,pursR,List.reduceReplicate,Nat.reduceMul,Nat.reduceSub,Nat.reduceEqDiff,Int.reduceToNat,Int.reduceLE,Int.reduceLT,Int.reduceEq,reduceCtorEq,↓reduceIte]
      simp only[out,outs,out1,pur,hZl,sZ,Nat.zero_add,purs,qcz,qc0,List.not_mem_nil,not_false_eq_true,true_and,and_true,Nat.reduceLeDiff,Nat.le_refl]
  · have hl':b.length+(i0+1)=p.length:=by rw[hJ];simp
    rw[hl']at d1 wl
    simp only[pdV_s,pdB_s,←hJ,hl',d1,wl,hag,hs3,↓hpr3,wp,q2,f2,sp',hhl,wat,qB,fB,hkl,hk1,hk1l,pk1,sub_zero,qdb,qai,List.length_cons,List.length_nil,Nat.reduceAdd,Nat.le_refl,Nat.reduceLeDiff,Nat.reduceLT,true_and,and_true,↓evA,evB,evs,evp,mkB,repB,blen,↓retQ,res,resAll,resOne,kill,apartOk,exp,injV,injB,pur,purs,purR,pursR,List.reduceReplicate,Nat.reduceMul,Nat.reduceSub,Nat.reduceEqDiff,Int.reduceToNat,Int.reduceLE,Int.reduceLT,Int.reduceEq,reduceCtorEq,↓reduceIte]
    repeat(refine And.intro (by omega) ?_)
    refine awp_loopA (n:=128) hA [2,4,5,6,12,13,15,16,17,62] (by decide +kernel) (fun i:Nat=>[.int .u64 (pn:Int),.slice 7 0 1 p.length p.length,.ptr 5 0,.ptr 6 0,.int .i64 (n:Int),.slice 8 0 1 (a+n) (a+n),.int .i64 (a:Int),.slice 9 0 1 256 256,.ptr 10 0,.int .i64 (i:Int)])
      (fun i=>[.ints true .u64 roots,.dead,.dead,.dead,.ints true .u8 b,.ints false .u8 k,.cells false [.int .i64 sp,T,R],.ints false .u8 p,.ints false .u8 H,.ints false .u8 X,.ints false .u8 (itr (nonZ (pn:Int)) k1 i)]) (fun i=>i≤8) (fun i=>8-i) 0 ?_ (by omega) ?_
    · refine Hd.same ?_
      simp only[itr,hxl,show ((0:Nat):Int)=0 from rfl,↓evA,evB,evs,evp,mkB,repB,blen,↓retQ,res,resAll,resOne,kill,apartOk,exp,injV,injB,pur,purs,purR,pursR,List.reduceReplicate,Nat.reduceAdd,Nat.reduceMul,Nat.reduceSub,Nat.reduceEqDiff,Nat.reduceLT,Int.reduceToNat,Int.reduceLE,Int.reduceLT,Int.reduceEq,reduceCtorEq,↓reduceIte]
    intro i hi K2 hK2
    simp only[s52,s53,s54,s56,s55]
    by_cases hli:i<8
    · have d2:(i:Int)<8:=by omega
      have wi:Go.IntKind.i64.wrap ((i:Int)+1)=((i+1:Nat):Int):=by rw[wrap_i64];omega
      have wa:Go.IntKind.i64.wrap (11-(i:Int))=((11-i:Nat):Int):=by rw[wrap_i64];omega
      have wb:Go.IntKind.i64.wrap (8*(i:Int))=((8*i:Nat):Int):=by rw[wrap_i64];omega
      have hyl:(itr (nonZ (pn:Int)) k1 i).length=12:=by rw[nonZ_len,hk1l]
      have hz:(itr (nonZ (pn:Int)) k1 i).set (11-i) (bXor .u8 (getI (itr (nonZ (pn:Int)) k1 i) (11-i)) (Go.IntKind.u8.wrap (iShr .u64 (pn:Int) ((8*i:Nat):Int))))=itr (nonZ (pn:Int)) k1 (i+1):=rfl
      have e1:11-i<12:=by omega
      generalize itr (nonZ (pn:Int)) k1 i=y at *
      generalize hze:itr (nonZ (pn:Int)) k1 (i+1)=z at *
      simp only[d2,wi,wa,wb,hyl,hz,e1,sub_zero,qdb,qai,List.length_cons,List.length_nil,Nat.reduceAdd,Nat.le_refl,Nat.reduceLeDiff,Nat.reduceLT,true_and,and_true,↓evA,evB,evs,evp,mkB,repB,blen,↓retQ,res,resAll,resOne,kill,apartOk,exp,injV,injB,pur,purs,purR,pursR,List.reduceReplicate,Nat.reduceMul,Nat.reduceSub,Nat.reduceEqDiff,Int.reduceToNat,Int.reduceLE,Int.reduceLT,Int.reduceEq,reduceCtorEq,↓reduceIte]
      repeat(refine And.intro (by omega) ?_)
      refine⟨i+1,hK2 _ (by omega) (by omega),Hd.same ?_⟩
      simp only[hze,↓evA,evB,evs,evp,mkB,repB,blen,↓retQ,res,resAll,resOne,kill,apartOk,exp,injV,injB,pur,purs,purR,pursR,List.reduceReplicate,Nat.reduceAdd,Nat.reduceMul,Nat.reduceSub,Nat.reduceEqDiff,Nat.reduceLT,Int.reduceToNat,Int.reduceLE,Int.reduceLT,Int.reduceEq,reduceCtorEq,↓reduceIte]
    obtain rfl:i=8:=by omega
    have d2:¬((8:Nat):Int)<8:=by omega
    rw[hNz]
    by_cases h2:sp=2
    · have hff2:Q.set 0 (bXor .u8 (getI Q 0) (bAnd .u8 (getI m 0) 31))=f:=by rw[hff,if_pos h2]
      simp only[d2,h2,sX,hxl,hky,hkyl,hNl,sN,sH,sp',q4,f4,hhl,hSl,sS,hQ,hQl,w4,w20,h20,hk2,hS2,hS16.1,qE,fE,hm16,pm,ez,hff2,hfl,hkl,sub_zero,qdb,qai,List.length_cons,List.length_nil,Nat.reduceAdd,Nat.le_refl,Nat.reduceLeDiff,Nat.reduceLT,true_and,and_true,↓evA,evB,evs,evp,mkB,repB,blen,↓retQ,res,resAll,resOne,kill,apartOk,exp,injV,injB,pur,purs,purR,pursR,List.reduceReplicate,Nat.reduceMul,Nat.reduceSub,Nat.reduceEqDiff,Int.reduceToNat,Int.reduceLE,Int.reduceLT,Int.reduceEq,reduceCtorEq,↓reduceIte]
      repeat(refine And.intro (by omega) ?_)
      refine awp_loopA (n:=128) hA [13,15,19,110,111] (by decide +kernel) (fun i:Nat=>[.slice 12 0 1 (a+n+(p.length+16)) (a+n+(p.length+16)),.int .i64 (a:Int),.ptr 13 0,.int .i64 (n:Int),.int .i64 (i:Int)])
        (fun i=>[.ints true .u64 roots,.dead,.dead,.dead,.ints true .u8 b,.ints false .u8 k,.cells false [.int .i64 2,T,R],.ints false .u8 p,.dead,.ints false .u8 X,.ints false .u8 N,.ints false .u8 S,.ints false .u8 (itr (hidS m a) f i),.ints false .u8 m]) (fun i=>i≤n) (fun i=>n-i) 0 ?_ (by omega) ?_
      · refine Hd.same ?_
        simp only[itr,show ((0:Nat):Int)=0 from rfl,↓evA,evB,evs,evp,mkB,repB,blen,↓retQ,res,resAll,resOne,kill,apartOk,exp,injV,injB,pur,purs,purR,pursR,List.reduceReplicate,Nat.reduceAdd,Nat.reduceMul,Nat.reduceSub,Nat.reduceEqDiff,Nat.reduceLT,Int.reduceToNat,Int.reduceLE,Int.reduceLT,Int.reduceEq,reduceCtorEq,↓reduceIte]
      intro i hi3 K3 hK3
      simp only[s52,s53,s54,s56,s55]
      by_cases hli:i<n
      · have d3:(i:Int)<(n:Int):=by omega
        have wi:Go.IntKind.i64.wrap ((i:Int)+1)=((i+1:Nat):Int):=by rw[wrap_i64];omega
        have wa:Go.IntKind.i64.wrap ((a:Int)+(i:Int))=((a+i:Nat):Int):=by rw[wrap_i64];omega
        have wb:Go.IntKind.i64.wrap (1+(i:Int))=((1+i:Nat):Int):=by rw[wrap_i64];omega
        have hyl:(itr (hidS m a) f i).length=a+n+(p.length+16):=by rw[hidS_len,hfl]
        have hz:(itr (hidS m a) f i).set (a+i) (bXor .u8 (getI (itr (hidS m a) f i) (a+i)) (getI m (1+i)))=itr (hidS m a) f (i+1):=rfl
        have e1:a+i<a+n+(p.length+16):=by omega
        have e2:1+i<16:=by omega
        generalize itr (hidS m a) f i=y at *
        generalize hze:itr (hidS m a) f (i+1)=z at *
        simp only[d3,wi,wa,wb,hyl,hz,hm16,e1,e2,sub_zero,qdb,qai,List.length_cons,List.length_nil,Nat.reduceAdd,Nat.le_refl,Nat.reduceLeDiff,Nat.reduceLT,true_and,and_true,↓evA,evB,evs,evp,mkB,repB,blen,↓retQ,res,resAll,resOne,kill,apartOk,exp,injV,injB,pur,purs,purR,pursR,List.reduceReplicate,Nat.reduceMul,Nat.reduceSub,Nat.reduceEqDiff,Int.reduceToNat,Int.reduceLE,Int.reduceLT,Int.reduceEq,reduceCtorEq,↓reduceIte]
        repeat(refine And.intro (by omega) ?_)
        refine⟨i+1,hK3 _ (by omega) (by omega),Hd.same ?_⟩
        simp only[hze,↓evA,evB,evs,evp,mkB,repB,blen,↓retQ,res,resAll,resOne,kill,apartOk,exp,injV,injB,pur,purs,purR,pursR,List.reduceReplicate,Nat.reduceAdd,Nat.reduceMul,Nat.reduceSub,Nat.reduceEqDiff,Nat.reduceLT,Int.reduceToNat,Int.reduceLE,Int.reduceLT,Int.reduceEq,reduceCtorEq,↓reduceIte]
      obtain rfl:i=n:=by omega
      have d3:¬(i:Int)<(i:Int):=by omega
      have hZl:Z.length=a+i+(p.length+16):=by rw[hPf,hidS_len,hfl]
      have sZ:sub Z 0 (a+i+(p.length+16))=Z:=sub_zero hZl
      rw[←hPf]
      simp only[d3,sub_zero,qdb,qai,List.length_cons,List.length_nil,Nat.reduceAdd,Nat.le_refl,Nat.reduceLeDiff,Nat.reduceLT,true_and,and_true,↓evA,evB,evs,evp,mkB,repB,blen,↓retQ,res,resAll,resOne,kill,apartOk,exp,injV,injB,pur,purs,purR,pursR,List.reduceReplicate,Nat.reduceMul,Nat.reduceSub,Nat.reduceEqDiff,Int.reduceToNat,Int.reduceLE,Int.reduceLT,Int.reduceEq,reduceCtorEq,↓reduceIte]
      simp only[out,outs,out1,pur,hZl,sZ,Nat.zero_add,purs,qcz,qc0,List.not_mem_nil,not_false_eq_true,true_and,and_true,Nat.reduceLeDiff,Nat.le_refl]
    · have hff2:Q.set 0 (bXor .u8 (getI Q 0) (bAnd .u8 (getI m 0) 15))=f:=by rw[hff,if_neg h2]
      simp only[d2,h2,sX,hxl,hky,hkyl,hNl,sN,sH,sp',q4,f4,hhl,hSl,sS,hQ,hQl,w4,w20,h20,hk2,hS2,hS16.1,qE,fE,hm16,pm,ez,hff2,hfl,hkl,sub_zero,qdb,qai,List.length_cons,List.length_nil,Nat.reduceAdd,Nat.le_refl,Nat.reduceLeDiff,Nat.reduceLT,true_and,and_true,↓evA,evB,evs,evp,mkB,repB,blen,↓retQ,res,resAll,resOne,kill,apartOk,exp,injV,injB,pur,purs,purR,pursR,List.reduceReplicate,Nat.reduceMul,Nat.reduceSub,Nat.reduceEqDiff,Int.reduceToNat,Int.reduceLE,Int.reduceLT,Int.reduceEq,reduceCtorEq,↓reduceIte]
      repeat(refine And.intro (by omega) ?_)
      refine awp_loopA (n:=128) hA [13,15,19,110,111] (by decide +kernel) (fun i:Nat=>[.slice 12 0 1 (a+n+(p.length+16)) (a+n+(p.length+16)),.int .i64 (a:Int),.ptr 13 0,.int .i64 (n:Int),.int .i64 (i:Int)])
        (fun i=>[.ints true .u64 roots,.dead,.dead,.dead,.ints true .u8 b,.ints false .u8 k,.cells false [.int .i64 sp,T,R],.ints false .u8 p,.dead,.ints false .u8 X,.ints false .u8 N,.ints false .u8 S,.ints false .u8 (itr (hidS m a) f i),.ints false .u8 m]) (fun i=>i≤n) (fun i=>n-i) 0 ?_ (by omega) ?_
      · refine Hd.same ?_
        simp only[itr,show ((0:Nat):Int)=0 from rfl,↓evA,evB,evs,evp,mkB,repB,blen,↓retQ,res,resAll,resOne,kill,apartOk,exp,injV,injB,pur,purs,purR,pursR,List.reduceReplicate,Nat.reduceAdd,Nat.reduceMul,Nat.reduceSub,Nat.reduceEqDiff,Nat.reduceLT,Int.reduceToNat,Int.reduceLE,Int.reduceLT,Int.reduceEq,reduceCtorEq,↓reduceIte]
      intro i hi3 K3 hK3
      simp only[s52,s53,s54,s56,s55]
      by_cases hli:i<n
      · have d3:(i:Int)<(n:Int):=by omega
        have wi:Go.IntKind.i64.wrap ((i:Int)+1)=((i+1:Nat):Int):=by rw[wrap_i64];omega
        have wa:Go.IntKind.i64.wrap ((a:Int)+(i:Int))=((a+i:Nat):Int):=by rw[wrap_i64];omega
        have wb:Go.IntKind.i64.wrap (1+(i:Int))=((1+i:Nat):Int):=by rw[wrap_i64];omega
        have hyl:(itr (hidS m a) f i).length=a+n+(p.length+16):=by rw[hidS_len,hfl]
        have hz:(itr (hidS m a) f i).set (a+i) (bXor .u8 (getI (itr (hidS m a) f i) (a+i)) (getI m (1+i)))=itr (hidS m a) f (i+1):=rfl
        have e1:a+i<a+n+(p.length+16):=by omega
        have e2:1+i<16:=by omega
        generalize itr (hidS m a) f i=y at *
        generalize hze:itr (hidS m a) f (i+1)=z at *
        simp only[d3,wi,wa,wb,hyl,hz,hm16,e1,e2,sub_zero,qdb,qai,List.length_cons,List.length_nil,Nat.reduceAdd,Nat.le_refl,Nat.reduceLeDiff,Nat.reduceLT,true_and,and_true,↓evA,evB,evs,evp,mkB,repB,blen,↓retQ,res,resAll,resOne,kill,apartOk,exp,injV,injB,pur,purs,purR,pursR,List.reduceReplicate,Nat.reduceMul,Nat.reduceSub,Nat.reduceEqDiff,Int.reduceToNat,Int.reduceLE,Int.reduceLT,Int.reduceEq,reduceCtorEq,↓reduceIte]
        repeat(refine And.intro (by omega) ?_)
        refine⟨i+1,hK3 _ (by omega) (by omega),Hd.same ?_⟩
        simp only[hze,↓evA,evB,evs,evp,mkB,repB,blen,↓retQ,res,resAll,resOne,kill,apartOk,exp,injV,injB,pur,purs,purR,pursR,List.reduceReplicate,Nat.reduceAdd,Nat.reduceMul,Nat.reduceSub,Nat.reduceEqDiff,Nat.reduceLT,Int.reduceToNat,Int.reduceLE,Int.reduceLT,Int.reduceEq,reduceCtorEq,↓reduceIte]
      obtain rfl:i=n:=by omega
      have d3:¬(i:Int)<(i:Int):=by omega
      have hZl:Z.length=a+i+(p.length+16):=by rw[hPf,hidS_len,hfl]
      have sZ:sub Z 0 (a+i+(p.length+16))=Z:=sub_zero hZl
      rw[←hPf]
      simp only[d3,sub_zero,qdb,qai,List.length_cons,List.length_nil,Nat.reduceAdd,Nat.le_refl,Nat.reduceLeDiff,Nat.reduceLT,true_and,and_true,↓evA,evB,evs,evp,mkB,repB,blen,↓retQ,res,resAll,resOne,kill,apartOk,exp,injV,injB,pur,purs,purR,pursR,List.reduceReplicate,Nat.reduceMul,Nat.reduceSub,Nat.reduceEqDiff,Int.reduceToNat,Int.reduceLE,Int.reduceLT,Int.reduceEq,reduceCtorEq,↓reduceIte]
      simp only[out,outs,out1,pur,hZl,sZ,Nat.zero_add,purs,qcz,qc0,List.not_mem_nil,not_false_eq_true,true_and,and_true,Nat.reduceLeDiff,Nat.le_refl]
end Am
set_option maxRecDepth 20000
namespace Am
open Go.Proofs
/-! ### GuardSeals -/
def caseZ:List (Nat×(List D→Prop)):=[(32,DArr 32 .u8),(1,DInt .i64),(1,DRs .u8),(1,DRs .u8),(1,DInt .u64),(1,DInt .u64),(1,DBool),(1,DSl .u8)]
theorem case_z {C:List D} (h:Dm caseZ C):∃(s to fr b:List Int) (sp:Int) (pn ac:Nat) (r:Bool),C=s.map (fun x=>D.v (.int .u8 x))++[.v (.int .i64 sp),.v (.rsl 1 to.length .u8 to),.v (.rsl 1 fr.length .u8 fr),.v (.int .u64 (pn:Int)),.v (.int .u64 (ac:Int)),.v (.bool r),.s .u8 b] ∧
    Sec s∧(-9223372036854775808≤sp∧sp<9223372036854775808)∧Dig 256 to∧Dig 256 fr∧pn<18446744073709551616∧ac<18446744073709551616∧Dig 256 b:=by
  obtain⟨a0,t0,rfl,-,⟨s,rfl,hs,hsw⟩,a1,t1,rfl,-,⟨sp,rfl,hspw⟩,a2,t2,rfl,-,⟨to,rfl,hto⟩,a3,t3,rfl,-,⟨fr,rfl,hfr⟩,a4,t4,rfl,-,⟨pn,rfl,hpn⟩,a5,t5,rfl,-,⟨ac,rfl,hac⟩,a6,t6,rfl,-,⟨r,rfl⟩,a7,t7,rfl,-,⟨b,rfl,hb,-⟩,rfl⟩:=h
  have p1:=wf_u64 hpn
  have p2:=wf_u64 hac
  obtain⟨pn,rfl⟩:=Int.eq_ofNat_of_zero_le p1.1
  obtain⟨ac,rfl⟩:=Int.eq_ofNat_of_zero_le p2.1
  exact⟨s,to,fr,b,sp,pn,ac,r,rfl,⟨hs,dig_u8 hsw⟩,wf_i64 hspw,dig_u8 hto,dig_u8 hfr,by omega,by omega,dig_u8 hb⟩
theorem purs_cz {to fr b:List Int} {s:List Int} {sp pn ac:Int} {r:Bool}:pursR (cs s [.int .i64 sp,.rsl 1 to.length .u8 to,.rsl 1 fr.length .u8 fr,.int .u64 pn,.int .u64 ac,.bool r,.slice 4 0 1 b.length b.length])=false:=by
  rw[pursR_cs];rfl
theorem frzs_cz {to fr b:List Int} {hp:List Blk} {s:List Int} {sp pn ac:Int} {r:Bool} {K:List V→Prop} (h1:nthB hp 4=.ints true .u8 b) :
    frzs (frz hp 3) (cs s [.int .i64 sp,.rsl 1 to.length .u8 to,.rsl 1 fr.length .u8 fr,.int .u64 pn,.int .u64 ac,.bool r,.slice 4 0 1 b.length b.length]) K =
      K (cs s [.int .i64 sp,.rsl 1 to.length .u8 to,.rsl 1 fr.length .u8 fr,.int .u64 pn,.int .u64 ac,.bool r,.rsl 1 b.length .u8 b]):=by
  have s3:=qdd b
  unfold cs
  rw[frzs_map _ (fun x K=>by simp[frz,purR])]
  simp[frzs,frz,h1,purR,s3]
def preGSl (ds:List D):Prop:=∃C:List D,ds=C++[]∧Dm caseZ C
theorem gkeys_dig (s:List Int):Dig 256 (gkeys s):=by
  unfold gkeys
  exact(exps_dig' _ _ _).append ((exps_dig' _ _ _).append (exps_dig' _ _ _))
set_option maxHeartbeats 16000000 in
theorem lawGuardSeals:∀ds,preGSl ds→Does Tryd.prog gl 8 (fold [some 39] (injV ds 4)) (gl++injB true ds) (out (4+(injB true ds).length) (FTrue ds)):=by
  refine fdoesF (l:=[(12,s12),(31,s31),(32,sHG),(13,s13),(33,s33),(34,s34)]) mixed gl_plain rfl Tryd.func8 comp8 compR8 nt8 (by simp only[List.mem_cons,List.not_mem_nil,or_false,forall_eq_or_imp,forall_eq];exact⟨ok12,ok31,okHG,ok13,ok33,ok34⟩) fun ds ⟨C,hd,hC⟩ hA=>?_
  obtain⟨s,to,fr,b,sp,pn,ac,r,hCe,hs,hsp,hto,hfr,hpn,hac,hb⟩:=case_z hC
  rw[List.append_nil]at hd
  subst hCe
  subst hd
  have hsl:=hs.1
  have hvI:injV (s.map (fun x=>D.v (.int .u8 x))++[.v (.int .i64 sp),.v (.rsl 1 to.length .u8 to),.v (.rsl 1 fr.length .u8 fr),.v (.int .u64 (pn:Int)),.v (.int .u64 (ac:Int)),.v (.bool r),.s .u8 b]) 4=cs s [.int .i64 sp,.rsl 1 to.length .u8 to,.rsl 1 fr.length .u8 fr,.int .u64 (pn:Int),.int .u64 (ac:Int),.bool r,.slice 4 0 1 b.length b.length]:=by
    rw[injV_cs];rfl
  have hbI:injB true (s.map (fun x=>D.v (.int .u8 x))++[.v (.int .i64 sp),.v (.rsl 1 to.length .u8 to),.v (.rsl 1 fr.length .u8 fr),.v (.int .u64 (pn:Int)),.v (.int .u64 (ac:Int)),.v (.bool r),.s .u8 b])=[.ints true .u8 b]:=by
    rw[injB_cs];rfl
  have hfo:fold [some 39] (cs s [.int .i64 sp,.rsl 1 to.length .u8 to,.rsl 1 fr.length .u8 fr,.int .u64 (pn:Int),.int .u64 (ac:Int),.bool r,.slice 4 0 1 b.length b.length])=[.agg (cs s [.int .i64 sp,.rsl 1 to.length .u8 to,.rsl 1 fr.length .u8 fr,.int .u64 (pn:Int),.int .u64 (ac:Int),.bool r,.slice 4 0 1 b.length b.length])]:=by
    have t1:List.take 39 (s.map (V.int .u8))=s.map (V.int .u8):=List.take_of_length_le (by simp[hsl])
    simp[fold,cs,List.take_append,hsl,t1]
  have hg:∀ds:List D,FTrue ds=.one (.v (.bool true)):=fun _=>rfl
  rw[hbI]
  simp only[hvI,hfo,hg]
  clear hvI hbI hfo hg
  have hlen:(cs s [.int .i64 sp,.rsl 1 to.length .u8 to,.rsl 1 fr.length .u8 fr,.int .u64 (pn:Int),.int .u64 (ac:Int),.bool r,.slice 4 0 1 b.length b.length]).length=39:=cs_len hsl _
  have hsub:sub (cs s [.int .i64 sp,.rsl 1 to.length .u8 to,.rsl 1 fr.length .u8 fr,.int .u64 (pn:Int),.int .u64 (ac:Int),.bool r,.slice 4 0 1 b.length b.length]) 0 39=cs s [.int .i64 sp,.rsl 1 to.length .u8 to,.rsl 1 fr.length .u8 fr,.int .u64 (pn:Int),.int .u64 (ac:Int),.bool r,.slice 4 0 1 b.length b.length]:=sub_zero hlen
  have hagc:agI (cs s [.int .i64 sp,.rsl 1 to.length .u8 to,.rsl 1 fr.length .u8 fr,.int .u64 (pn:Int),.int .u64 (ac:Int),.bool r,.slice 4 0 1 b.length b.length])=.agg (cs s [.int .i64 sp,.rsl 1 to.length .u8 to,.rsl 1 fr.length .u8 fr,.int .u64 (pn:Int),.int .u64 (ac:Int),.bool r,.slice 4 0 1 b.length b.length]):=agI_cs hsl rfl
  have hn6:nth (cs s [.int .i64 sp,.rsl 1 to.length .u8 to,.rsl 1 fr.length .u8 fr,.int .u64 (pn:Int),.int .u64 (ac:Int),.bool r,.slice 4 0 1 b.length b.length]) 38=.slice 4 0 1 b.length b.length:=cs_nth hsl _ 6
  have hs32:sub (cs s [.int .i64 sp,.rsl 1 to.length .u8 to,.rsl 1 fr.length .u8 fr,.int .u64 (pn:Int),.int .u64 (ac:Int),.bool r,.slice 4 0 1 b.length b.length]) 0 32=s.map (V.int .u8):=cs_sub hsl _
  have hund:[V.agg (cs s [.int .i64 sp,.rsl 1 to.length .u8 to,.rsl 1 fr.length .u8 fr,.int .u64 (pn:Int),.int .u64 (ac:Int),.bool r,.slice 4 0 1 b.length b.length])].map und=[.agg (cs s [.int .i64 sp,.rsl 1 to.length .u8 to,.rsl 1 fr.length .u8 fr,.int .u64 (pn:Int),.int .u64 (ac:Int),.bool r,.undef])]:=by
    rw[List.map_cons,List.map_nil,und_cs];rfl
  have hags:agI (s.map (V.int .u8))=.ints .u8 s:=agI_ints (fun h=>by rw[h]at hsl;simp at hsl)
  have sb:=qdd b
  have pA:pre12 []:=rfl
  have fA:F12 []=.one (.v (.bool true)):=rfl
  have qL:preLng [.v (.agg (cs s [.int .i64 sp,.rsl 1 to.length .u8 to,.rsl 1 fr.length .u8 fr,.int .u64 (pn:Int),.int .u64 (ac:Int),.bool r,.rsl 1 b.length .u8 b]))]:=⟨s,to,fr,b,sp,pn,ac,r,rfl,hsl⟩
  have fL:lngF [.v (.agg (cs s [.int .i64 sp,.rsl 1 to.length .u8 to,.rsl 1 fr.length .u8 fr,.int .u64 (pn:Int),.int .u64 (ac:Int),.bool r,.rsl 1 b.length .u8 b]))]=.one (.v (.bool (decide (50<to.length)||decide (50<fr.length)||decide (120<b.length)))):=by
    have h1:=cs_nth hsl [.int .i64 sp,.rsl 1 to.length .u8 to,.rsl 1 fr.length .u8 fr,.int .u64 (pn:Int),.int .u64 (ac:Int),.bool r,.rsl 1 b.length .u8 b] 1
    have h2:=cs_nth hsl [.int .i64 sp,.rsl 1 to.length .u8 to,.rsl 1 fr.length .u8 fr,.int .u64 (pn:Int),.int .u64 (ac:Int),.bool r,.rsl 1 b.length .u8 b] 2
    have h6:=cs_nth hsl [.int .i64 sp,.rsl 1 to.length .u8 to,.rsl 1 fr.length .u8 fr,.int .u64 (pn:Int),.int .u64 (ac:Int),.bool r,.rsl 1 b.length .u8 b] 6
    simp only[nth,Nat.reduceAdd]at h1 h2 h6
    simp only[lngF,h1,h2,h6,vl]
  generalize hbl:(decide (50<to.length)||decide (50<fr.length)||decide (120<b.length))=bl
  rw[hbl]at fL
  simp only[s12,s31,s13,s33,s34,sHG]
  cases bl with
  | true =>
    simp only[ir8,rs8,gl,pA,fA,hlen,hsub,hagc,↓purs_cz,↓frzs_cz,qL,fL,sub_zero,qdb,qai,List.length_cons,List.length_nil,Nat.reduceAdd,Nat.le_refl,Nat.reduceLeDiff,Nat.reduceLT,true_and,and_true,↓evA,evB,evs,evp,mkB,repB,blen,↓retQ,res,resAll,resOne,kill,apartOk,exp,injV,injB,pur,purs,purR,pursR,List.reduceReplicate,Nat.reduceMul,Nat.reduceSub,Nat.reduceEqDiff,Int.reduceToNat,Int.reduceLE,Int.reduceLT,Int.reduceEq,reduceCtorEq,↓reduceIte]
    exact out_bool rfl
  | false =>
  simp only[Bool.or_eq_false_iff,decide_eq_false_iff_not]at hbl
  obtain⟨⟨l1,l2⟩,l3⟩:=hbl
  have q1:preSec [.v (.ints .u8 s)]:=⟨_,rfl,hs⟩
  have f1:F13 [.v (.ints .u8 s)]=.one (.v (.ints .u8 (gkeys s))):=rfl
  have hK:K44 (gkeys s):=⟨gkeys_len s,gkeys_dig s⟩
  generalize gkeys s=k at *
  have hkl:=hK.1
  have sk:sub k 0 44=k:=sub_zero hkl
  have pk:spl (List.replicate 44 0) 0 k=k:=qdb (by simp[hkl])
  simp only[List.reduceReplicate]at pk
  have h0:=cs_nth hsl [.int .i64 sp,.rsl 1 to.length .u8 to,.rsl 1 fr.length .u8 fr,.int .u64 (pn:Int),.int .u64 (ac:Int),.bool r,.undef] 0
  have h1:=cs_nth hsl [.int .i64 sp,.rsl 1 to.length .u8 to,.rsl 1 fr.length .u8 fr,.int .u64 (pn:Int),.int .u64 (ac:Int),.bool r,.undef] 1
  have h2:=cs_nth hsl [.int .i64 sp,.rsl 1 to.length .u8 to,.rsl 1 fr.length .u8 fr,.int .u64 (pn:Int),.int .u64 (ac:Int),.bool r,.undef] 2
  have h3:=cs_nth hsl [.int .i64 sp,.rsl 1 to.length .u8 to,.rsl 1 fr.length .u8 fr,.int .u64 (pn:Int),.int .u64 (ac:Int),.bool r,.undef] 3
  have h4:=cs_nth hsl [.int .i64 sp,.rsl 1 to.length .u8 to,.rsl 1 fr.length .u8 fr,.int .u64 (pn:Int),.int .u64 (ac:Int),.bool r,.undef] 4
  have h5:=cs_nth hsl [.int .i64 sp,.rsl 1 to.length .u8 to,.rsl 1 fr.length .u8 fr,.int .u64 (pn:Int),.int .u64 (ac:Int),.bool r,.undef] 5
  simp only[nth,Nat.reduceAdd]at h0 h1 h2 h3 h4 h5
  have qH:preHG [.agg (cs s [.int .i64 sp,.rsl 1 to.length .u8 to,.rsl 1 fr.length .u8 fr,.int .u64 (pn:Int),.int .u64 (ac:Int),.bool r,.undef])]:=⟨s,to,fr,sp,pn,ac,r,.undef,rfl,hsl,hsp,by omega,by omega,hpn⟩
  cases r with
  | false =>
    have fH:hdG [.agg (cs s [.int .i64 sp,.rsl 1 to.length .u8 to,.rsl 1 fr.length .u8 fr,.int .u64 (pn:Int),.int .u64 (ac:Int),.bool false,.undef])]=⟨[some 3,none,none],[.v (.int .i64 sp),.v (.rsl 1 to.length .u8 to),.v (.rsl 1 fr.length .u8 fr),.v (.int .u64 (pn:Int)),.v (.int .u64 (ac:Int))]⟩:=by
      simp only[hdG,h0,h1,h2,h3,h4,h5]
    have hE:expT 6 ⟨[some 3,none,none],[.v (.int .i64 sp),.v (.rsl 1 to.length .u8 to),.v (.rsl 1 fr.length .u8 fr),.v (.int .u64 (pn:Int)),.v (.int .u64 (ac:Int))]⟩ =
        ⟨.tup [.agg [.int .i64 sp,.rsl 1 to.length .u8 to,.rsl 1 fr.length .u8 fr],.int .u64 (pn:Int),.int .u64 (ac:Int)],[],[]⟩:=by
      simp[expT,fold,injV,injB]
    have hag:agI [V.int .i64 sp,.rsl 1 to.length .u8 to,.rsl 1 fr.length .u8 fr]=.agg [V.int .i64 sp,.rsl 1 to.length .u8 to,.rsl 1 fr.length .u8 fr]:=rfl
    have hs3:sub [V.int .i64 sp,.rsl 1 to.length .u8 to,.rsl 1 fr.length .u8 fr] 0 3=[V.int .i64 sp,.rsl 1 to.length .u8 to,.rsl 1 fr.length .u8 fr]:=rfl
    have hpr:pursR [V.int .i64 sp,.rsl 1 to.length .u8 to,.rsl 1 fr.length .u8 fr]=true:=rfl
    have hsp3:spl [V.int .i64 0,.nils,.nils] 0 [V.int .i64 sp,.rsl 1 to.length .u8 to,.rsl 1 fr.length .u8 fr]=[V.int .i64 sp,.rsl 1 to.length .u8 to,.rsl 1 fr.length .u8 fr]:=rfl
    have q2:preGS [.v (.ints .u8 k),.v (.agg [.int .i64 sp,.rsl 1 to.length .u8 to,.rsl 1 fr.length .u8 fr]),.v (.int .u64 (pn:Int)),.v (.int .u64 (ac:Int)),.s .u8 b] :=
      ⟨k,sp,_,_,pn,ac,b,rfl,hK,.inr rfl,hto,.inr rfl,hfr,hb,by omega⟩
    have f2:F33 [.v (.ints .u8 k),.v (.agg [.int .i64 sp,.rsl 1 to.length .u8 to,.rsl 1 fr.length .u8 fr]),.v (.int .u64 (pn:Int)),.v (.int .u64 (ac:Int)),.s .u8 b]=.many [.s .u8 (pktX k sp to fr pn ac b),.v (.int .i64 (pktE sp to fr pn ac))]:=rfl
    have f3:F34 [.v (.ints .u8 k),.v (.agg [.int .i64 sp,.rsl 1 to.length .u8 to,.rsl 1 fr.length .u8 fr]),.v (.int .u64 (pn:Int)),.v (.int .u64 (ac:Int)),.s .u8 b]=.many [.s .u8 (pktX k sp to fr pn ac b),.v (.int .i64 (pktE sp to fr pn ac))]:=rfl
    generalize pktX k sp to fr pn ac b=X at *
    generalize pktE sp to fr pn ac=E at *
    have sX:=qdd X
    simp only[ir8,rs8,gl,pA,fA,hlen,hsub,hagc,↓purs_cz,↓frzs_cz,qL,fL,↓z_sSt,hund,qH,fH,hE,hag,↓hpr,hsp3,hs3,hs32,hags,hsl,q1,f1,hkl,pk,sk,hn6,q2,f2,f3,sb,sX,sub_zero,qdb,qai,List.length_cons,List.length_nil,Nat.reduceAdd,Nat.le_refl,Nat.reduceLeDiff,Nat.reduceLT,true_and,and_true,↓evA,evB,evs,evp,mkB,repB,blen,↓retQ,res,resAll,resOne,kill,apartOk,exp,injV,injB,pur,purs,purR,pursR,List.reduceReplicate,Nat.reduceMul,Nat.reduceSub,Nat.reduceEqDiff,Int.reduceToNat,Int.reduceLE,Int.reduceLT,Int.reduceEq,reduceCtorEq,↓reduceIte]
    repeat(first | exact out_bool rfl | refine And.intro (by omega) ?_)
  | true =>
    have fH:hdG [.agg (cs s [.int .i64 sp,.rsl 1 to.length .u8 to,.rsl 1 fr.length .u8 fr,.int .u64 (pn:Int),.int .u64 (ac:Int),.bool true,.undef])]=⟨[some 3,none,none],[.v (.int .i64 (sp3 sp:Nat)),.s .u8 (p8 to),.s .u8 (p8 fr),.v (.int .u64 (pnR (pn:Int):Nat)),.v (.int .u64 (acR (pn:Int) (ac:Int):Nat))]⟩:=by
      simp only[hdG,h0,h1,h2,h3,h4,h5,vxs,vn]
    have hTd:Dig 256 (p8 to):=p8_dig hto
    have hRd:Dig 256 (p8 fr):=p8_dig hfr
    have hTl:(p8 to).length=8:=p8_len to
    have hRl:(p8 fr).length=8:=p8_len fr
    generalize p8 to=T at *
    generalize p8 fr=R at *
    generalize sp3 sp=z at *
    generalize pnR (pn:Int)=P at *
    generalize acR (pn:Int) (ac:Int)=Q at *
    have hE:expT 6 ⟨[some 3,none,none],[.v (.int .i64 (z:Int)),.s .u8 T,.s .u8 R,.v (.int .u64 (P:Int)),.v (.int .u64 (Q:Int))]⟩ =
        ⟨.tup [.agg [.int .i64 (z:Int),.slice 6 0 1 8 8,.slice 7 0 1 8 8],.int .u64 (P:Int),.int .u64 (Q:Int)],[],[.ints false .u8 T,.ints false .u8 R]⟩:=by
      simp[expT,fold,injV,injB,hTl,hRl]
    have sT:sub T 0 8=T:=sub_zero hTl
    have sR:sub R 0 8=R:=sub_zero hRl
    have hag:agI [V.int .i64 (z:Int),.slice 6 0 1 8 8,.slice 7 0 1 8 8]=.agg [V.int .i64 (z:Int),.slice 6 0 1 8 8,.slice 7 0 1 8 8]:=rfl
    have hs3:sub [V.int .i64 (z:Int),.slice 6 0 1 8 8,.slice 7 0 1 8 8] 0 3=[V.int .i64 (z:Int),.slice 6 0 1 8 8,.slice 7 0 1 8 8]:=rfl
    have hpr:pursR [V.int .i64 (z:Int),.slice 6 0 1 8 8,.slice 7 0 1 8 8]=false:=rfl
    have hsp3:spl [V.int .i64 0,.nils,.nils] 0 [V.int .i64 (z:Int),.slice 6 0 1 8 8,.slice 7 0 1 8 8]=[V.int .i64 (z:Int),.slice 6 0 1 8 8,.slice 7 0 1 8 8]:=rfl
    have q2:preGS [.v (.ints .u8 k),.v (.agg [.int .i64 (z:Int),.rsl 1 8 .u8 T,.rsl 1 8 .u8 R]),.v (.int .u64 (P:Int)),.v (.int .u64 (Q:Int)),.s .u8 b] :=
      ⟨k,z,_,_,P,Q,b,rfl,hK,.inr (by rw[vxs,hTl]),hTd,.inr (by rw[vxs,hRl]),hRd,hb,by omega⟩
    have f2:F33 [.v (.ints .u8 k),.v (.agg [.int .i64 (z:Int),.rsl 1 8 .u8 T,.rsl 1 8 .u8 R]),.v (.int .u64 (P:Int)),.v (.int .u64 (Q:Int)),.s .u8 b]=.many [.s .u8 (pktX k (z:Int) T R P Q b),.v (.int .i64 (pktE (z:Int) T R P Q))]:=rfl
    have f3:F34 [.v (.ints .u8 k),.v (.agg [.int .i64 (z:Int),.rsl 1 8 .u8 T,.rsl 1 8 .u8 R]),.v (.int .u64 (P:Int)),.v (.int .u64 (Q:Int)),.s .u8 b]=.many [.s .u8 (pktX k (z:Int) T R P Q b),.v (.int .i64 (pktE (z:Int) T R P Q))]:=rfl
    generalize pktX k (z:Int) T R P Q b=X at *
    generalize pktE (z:Int) T R P Q=E at *
    have sX:=qdd X
    simp only[ir8,rs8,gl,pA,fA,hlen,hsub,hagc,↓purs_cz,↓frzs_cz,qL,fL,↓z_sSt,hund,qH,fH,hE,hTl,hRl,hag,↓hpr,sT,sR,hsp3,hs3,hs32,hags,hsl,q1,f1,hkl,pk,sk,hn6,q2,f2,f3,sb,sX,sub_zero,qdb,qai,List.length_cons,List.length_nil,Nat.reduceAdd,Nat.le_refl,Nat.reduceLeDiff,Nat.reduceLT,true_and,and_true,↓evA,evB,evs,evp,mkB,repB,blen,↓retQ,res,resAll,resOne,kill,apartOk,exp,injV,injB,pur,purs,purR,pursR,List.reduceReplicate,Nat.reduceMul,Nat.reduceSub,Nat.reduceEqDiff,Int.reduceToNat,Int.reduceLE,Int.reduceLT,Int.reduceEq,reduceCtorEq,↓reduceIte]
    repeat(first | exact out_bool rfl | refine And.intro (by omega) ?_)
end Am
