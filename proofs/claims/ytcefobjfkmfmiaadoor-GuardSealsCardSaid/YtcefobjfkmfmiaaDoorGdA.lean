/-
Working texts: contracts of functions, and the numbers behind them.
-/
import Derived.Test.YtcefobjfkmfmiaaDoorAeR
import Derived.Test.YtcefobjfkmfmiaaDoorIrGu
import Derived.Test.YtcefobjfkmfmiaaDoorAmLoop
import Derived.Test.YtcefobjfkmfmiaaDoorBase
set_option linter.unusedSimpArgs false
set_option linter.unusedVariables false
set_option linter.unusedSectionVars false
set_option maxRecDepth 20000
namespace Am
open Go.Proofs
/-! ### A nonce of a packet's number -/
def nonS (pn:Int) (s:List Int) (i:Nat):List Int:=s.set (4+i) (bXor .u8 (getI s (4+i)) (Go.IntKind.u8.wrap (iShr .u64 pn ((56-8*i:Nat):Int))))
def nonF (k:List Int) (pn:Int):List Int:=itr (nonS pn) (sub k 16 12) 8
def K44 (k:List Int):Prop:=k.length=44∧Dig 256 k
def preNon (ds:List D):Prop:=∃(k:List Int) (pn:Int),ds=[.v (.ints .u8 k),.v (.int .u64 pn)]∧K44 k
def F50:List D→Out
  | [.v (.ints _ k),.v (.int _ pn)]=>.one (.v (.ints .u8 (nonF k pn)))
  | _=>bad
def s50:Summ:=sData [.v,.v] preNon F50
theorem nonS_ok {k:List Int} {pn:Int} (hk:K44 k) (n:Nat):B12 (itr (nonS pn) (sub k 16 12) n) :=
  itr_inv (fun _ (s:List Int)=>B12 s) ⟨by simp[sub,hk.1],sub_dig' hk.2⟩ (fun n s hs=>⟨by simp[nonS,hs.1],hs.2.set _ (x8_bd _ _).1 (x8_bd _ _).2⟩) n
set_option maxHeartbeats 2000000 in
theorem ok50 {g:List Blk} [Ge gl g]:SumOK Tryd.prog g 50 s50∧SumAbs s50:=by
  refine fsumA (l:=[]) mixed gl_plain rfl Tryd.func50 comp50 compR50 nt50 (by simp) fun ds ⟨k,pn,hd,hk⟩ hA=>?_
  subst hd
  have hkl:=hk.1
  have hF:F50 [.v (.ints .u8 k),.v (.int .u64 pn)]=.one (.v (.ints .u8 (nonF k pn))):=rfl
  have h0:=nonS_ok (pn:=pn) hk 0
  have e0:itr (nonS pn) (sub k 16 12) 0=sub k 16 12:=rfl
  rw[e0]at h0
  have hsl:=h0.1
  have p0:spl [0,0,0,0,0,0,0,0,0,0,0,0] 0 (sub k 16 12)=sub k 16 12:=qdb (by simp[hsl])
  simp only[ir50,rs50,gl,hF,hkl,hsl,p0,sub_zero,qdb,qai,List.length_cons,List.length_nil,Nat.reduceAdd,Nat.le_refl,Nat.reduceLeDiff,Nat.reduceLT,true_and,and_true,↓evA,evB,evs,evp,mkB,repB,blen,↓retQ,res,resAll,resOne,kill,apartOk,exp,injV,injB,pur,purs,purR,pursR,List.reduceReplicate,Nat.reduceMul,Nat.reduceSub,Nat.reduceEqDiff,Int.reduceToNat,Int.reduceLE,Int.reduceLT,Int.reduceEq,reduceCtorEq,↓reduceIte]
  repeat(refine And.intro (by omega) ?_)
  refine awp_loopA (n:=26) hA [1,4,5,9] (by decide +kernel) (fun i:Nat=>[.int .u64 pn,.ptr 5 0,.ptr 6 0,.int .i64 i])
    (fun i=>[.ints true .u64 roots,.dead,.dead,.dead,.ints false .u8 k,.ints false .u8 [0,0,0,0,0,0,0,0,0,0,0,0],.ints false .u8 (itr (nonS pn) (sub k 16 12) i)]) (fun i=>i≤8) (fun i=>8-i) 0 ?_ (by omega) ?_
  · refine Hd.same ?_
    simp only[itr,↓evA,evB,evs,evp,mkB,repB,blen,↓retQ,res,resAll,resOne,kill,apartOk,exp,injV,injB,pur,purs,purR,pursR,List.reduceReplicate,Nat.reduceAdd,Nat.reduceMul,Nat.reduceSub,Nat.reduceEqDiff,Nat.reduceLT,Int.reduceToNat,Int.reduceLE,Int.reduceLT,Int.reduceEq,reduceCtorEq,↓reduceIte]
  intro i hi K hK
  have hB:=nonS_ok (pn:=pn) hk i
  by_cases hlt:i<8
  · have c1:(i:Int)<8:=by omega
    have wi:Go.IntKind.i64.wrap ((i:Int)+1)=((i+1:Nat):Int):=by rw[wrap_i64];omega
    have w4:Go.IntKind.i64.wrap (4+(i:Int))=((4+i:Nat):Int):=by rw[wrap_i64];omega
    have wm:Go.IntKind.i64.wrap (8*(i:Int))=((8*i:Nat):Int):=by rw[wrap_i64];omega
    have ws:Go.IntKind.i64.wrap (56-((8*i:Nat):Int))=((56-8*i:Nat):Int):=by rw[wrap_i64];omega
    have hx:itr (nonS pn) (sub k 16 12) (i+1)=nonS pn (itr (nonS pn) (sub k 16 12) i) i:=rfl
    obtain⟨s,hs⟩:∃s,itr (nonS pn) (sub k 16 12) i=s:=⟨_,rfl⟩
    rw[hs]at hx hB ⊢
    have hl:=hB.1
    have b2:4+i<12:=by omega
    simp only[c1,wi,w4,wm,ws,hl,b2,sub_zero,qdb,qai,List.length_cons,List.length_nil,Nat.reduceAdd,Nat.le_refl,Nat.reduceLeDiff,Nat.reduceLT,true_and,and_true,↓evA,evB,evs,evp,mkB,repB,blen,↓retQ,res,resAll,resOne,kill,apartOk,exp,injV,injB,pur,purs,purR,pursR,List.reduceReplicate,Nat.reduceMul,Nat.reduceSub,Nat.reduceEqDiff,Int.reduceToNat,Int.reduceLE,Int.reduceLT,Int.reduceEq,reduceCtorEq,↓reduceIte]
    repeat(refine And.intro (by omega) ?_)
    refine⟨i+1,hK _ (by omega) (by omega),Hd.same ?_⟩
    simp only[hx,nonS,↓evA,evB,evs,evp,mkB,repB,blen,↓retQ,res,resAll,resOne,kill,apartOk,exp,injV,injB,pur,purs,purR,pursR,List.reduceReplicate,Nat.reduceAdd,Nat.reduceMul,Nat.reduceSub,Nat.reduceEqDiff,Nat.reduceLT,Int.reduceToNat,Int.reduceLE,Int.reduceLT,Int.reduceEq,reduceCtorEq,↓reduceIte]
  obtain rfl:i=8:=by omega
  have c1:¬((8:Nat):Int)<8:=by omega
  have hR:itr (nonS pn) (sub k 16 12) 8=nonF k pn:=rfl
  rw[hR]at hB ⊢
  obtain⟨R,hRR⟩:∃R,nonF k pn=R:=⟨_,rfl⟩
  rw[hRR]at hB ⊢
  have hl:=hB.1
  have sR:sub R 0 12=R:=sub_zero hl
  have pR:spl [0,0,0,0,0,0,0,0,0,0,0,0] 0 R=R:=qdb (by simp[hl])
  simp only[c1,hl,sR,pR,sub_zero,qdb,qai,List.length_cons,List.length_nil,Nat.reduceAdd,Nat.le_refl,Nat.reduceLeDiff,Nat.reduceLT,true_and,and_true,↓evA,evB,evs,evp,mkB,repB,blen,↓retQ,res,resAll,resOne,kill,apartOk,exp,injV,injB,pur,purs,purR,pursR,List.reduceReplicate,Nat.reduceMul,Nat.reduceSub,Nat.reduceEqDiff,Int.reduceToNat,Int.reduceLE,Int.reduceLT,Int.reduceEq,reduceCtorEq,↓reduceIte]
  repeat(refine And.intro (by omega) ?_)
  simp only[out,outs,out1,pur,and_self]
/-! ### What hides a head -/
def hbits (x:Int):Int:=if bAnd .u8 x 128=0 then 31 else 15
def hnum (x:Int):Nat:=(bAnd .u8 x 3).toNat+1
def hmask (k b:List Int) (a:Nat):List Int:=encF (newF (sub k 28 16)) (sub b (a+4) 16)
def hfst (k b:List Int) (a:Nat):List Int:=b.set 0 (bXor .u8 (getI b 0) (bAnd .u8 (getI (hmask k b a) 0) (hbits (getI b 0))))
def hcnt (k b:List Int) (a:Nat) (hid:Bool):Nat:=hnum (getI (if hid then hfst k b a else b) 0)
def hidS (m:List Int) (a:Nat) (s:List Int) (i:Nat):List Int:=s.set (a+i) (bXor .u8 (getI s (a+i)) (getI m (1+i)))
def hidF (k b:List Int) (a:Nat) (hid:Bool):List Int:=itr (hidS (hmask k b a) a) (hfst k b a) (hcnt k b a hid)
theorem and3 (x:Int):0≤bAnd .u8 x 3∧bAnd .u8 x 3≤3:=by
  unfold bAnd
  have h:(BitVec.ofInt 8 x &&& BitVec.ofInt 8 3).toNat≤3:=by
    rw[BitVec.toNat_and]
    exact Nat.le_trans Nat.and_le_right (by decide)
  show 0≤Go.IntKind.u8.wrap (((BitVec.ofInt 8 x &&& BitVec.ofInt 8 3).toNat:Nat):Int)∧Go.IntKind.u8.wrap (((BitVec.ofInt 8 x &&& BitVec.ofInt 8 3).toNat:Nat):Int)≤3
  rw[wrap_u8]
  omega
theorem hnum_le (x:Int):hnum x≤4∧1≤hnum x:=by have:=and3 x;unfold hnum;omega
theorem hnum_w (x:Int):Go.IntKind.i64.wrap (Go.IntKind.i64.wrap (bAnd .u8 x 3)+1)=(hnum x:Int):=by
  have:=and3 x
  unfold hnum
  rw[wrap_i64,wrap_i64];omega
def preHid (ds:List E):Prop:=∃(k b:List Int) (a:Nat) (hid:Bool),ds=[.v (.ints .u8 k),.w .u8 b,.v (.int .i64 (a:Int)),.v (.bool hid)]∧K44 k∧Dig 256 b∧1≤a∧a+20≤b.length∧b.length≤549755813888
def F51:List E→List (List E)×EOut
  | [.v (.ints _ k),.w _ b,.v (.int _ a),.v (.bool hid)]=>([[.v (.ints .u8 (hidF k b a.toNat hid))]],.one (.v (.int .i64 (hcnt k b a.toNat hid:Int))))
  | _=>([],.many [])
def s51:Summ:=sEff [.v,.w .u8,.v,.v] preHid F51
theorem hidS_len {m b:List Int} {a:Nat} (n:Nat):(itr (hidS m a) b n).length=b.length :=
  itr_inv (fun _ (s:List Int)=>s.length=b.length) rfl (fun n s hs=>by simp[hidS,hs]) n
set_option maxHeartbeats 4000000 in
theorem ok51 {g:List Blk} [Ge gl g]:SumOK Tryd.prog g 51 s51∧SumAbs s51:=by
  refine esumA (l:=[(69,s69)]) mixed gl_plain rfl Tryd.func51 comp51 compR51 nt51 (by simp only[List.mem_cons,List.not_mem_nil,or_false,forall_eq];exact ok69) fun ds ⟨k,b,a,hid,hd,hk,hb,ha,hab,hbl⟩ hA=>?_
  subst hd
  have hkl:=hk.1
  have hF:F51 [.v (.ints .u8 k),.w .u8 b,.v (.int .i64 (a:Int)),.v (.bool hid)]=([[.v (.ints .u8 (hidF k b a hid))]],.one (.v (.int .i64 (hcnt k b a hid:Int)))):=rfl
  have wa:Go.IntKind.i64.wrap ((a:Int)+4)=((a+4:Nat):Int):=by rw[wrap_i64];omega
  have hS:B16 (sub b (a+4) 16):=⟨by simp[sub];omega,sub_dig' hb⟩
  have hM:B16 (sub k 28 16):=⟨by simp[sub,hkl],sub_dig' hk.2⟩
  have hmn:min (b.length-(a+4)) 16=16:=by omega
  have cp:spl [0,0,0,0,0,0,0,0,0,0,0,0,0,0,0,0] 0 (List.take 16 (sub b (a+4) (b.length-(a+4))))=sub b (a+4) 16:=by
    have e:List.take 16 (sub b (a+4) (b.length-(a+4)))=sub b (a+4) 16:=by
      simp only[sub,List.take_take];congr 1;omega
    rw[e]
    exact qdb (by simp[hS.1])
  have hE:=enc_ok hM hS
  have q:preEncB [.v (.ints .u8 (sub k 28 16)),.v (.ints .u8 (sub b (a+4) 16))]:=⟨_,_,rfl,hM,hS⟩
  have f:F69 [.v (.ints .u8 (sub k 28 16)),.v (.ints .u8 (sub b (a+4) 16))]=.one (.v (.ints .u8 (hmask k b a))):=rfl
  have hE':B16 (hmask k b a):=hE
  have hR:hidF k b a hid=itr (hidS (hmask k b a) a) (hfst k b a) (hcnt k b a hid):=rfl
  have hb1:hfst k b a=b.set 0 (bXor .u8 (getI b 0) (bAnd .u8 (getI (hmask k b a) 0) (hbits (getI b 0)))):=rfl
  have hc:hcnt k b a hid=hnum (getI (if hid then hfst k b a else b) 0):=rfl
  obtain⟨m,hm⟩:∃m,hmask k b a=m:=⟨_,rfl⟩
  rw[hm]at f hE' hR hb1
  obtain⟨S,hSe⟩:∃S,sub b (a+4) 16=S:=⟨_,rfl⟩
  rw[hSe]at hS q f cp
  obtain⟨k2,hk2⟩:∃k2,sub k 28 16=k2:=⟨_,rfl⟩
  rw[hk2]at hM q f
  have hml:=hE'.1
  have hSl:=hS.1
  have hk2l:=hM.1
  have sS:sub S 0 16=S:=sub_zero hSl
  have pm:spl [0,0,0,0,0,0,0,0,0,0,0,0,0,0,0,0] 0 m=m:=qdb (by simp[hml])
  have b0:0<b.length:=by omega
  obtain⟨x,hx⟩:∃x,getI b 0=x:=⟨_,rfl⟩
  rw[hx]at hb1
  have hw1:=hnum_w x
  obtain⟨B1,hB1⟩:∃B1,hfst k b a=B1:=⟨_,rfl⟩
  rw[hB1]at hb1 hR hc
  have hB1l:B1.length=b.length:=by rw[hb1,List.length_set]
  obtain⟨y,hy⟩:∃y,getI B1 0=y:=⟨_,rfl⟩
  have hw2:=hnum_w y
  obtain⟨n,hn⟩:∃n,hcnt k b a hid=n:=⟨_,rfl⟩
  rw[hn]at hR hF hc
  have hn4:n≤4:=by rw[hc];exact(hnum_le _).1
  have lp:∀g':Go.FuncId→Summ,True:=fun _=>trivial
  simp only[s69]
  by_cases h128:bAnd .u8 x 128=0
  · have hbt:hbits x=31:=by rw[hbits,if_pos h128]
    rw[hbt]at hb1
    cases hid
    · have hcn:hnum x=n:=by rw[hc];simp[hx]
      rw[hcn]at hw1
      simp only[ir51,rs51,gl,hF,wa,hmn,cp,hk2,hkl,hk2l,hSl,sS,q,f,hml,pm,b0,hx,h128,←hb1,hw1,hB1l,sub_zero,qdb,qai,List.length_cons,List.length_nil,Nat.reduceAdd,Nat.le_refl,Nat.reduceLeDiff,Nat.reduceLT,true_and,and_true,↓qar,↓qan,↓qao,↓qap,↓qam,↓qaj,↓qak,↓qaq,↓qal,idsEs,idsE,idss,killB,effE,stA,wBlk,deads,nwA,cntA,cnts,cnt,valO,blkO,inj,injs,blk,blks,outA,outR,outE,outEs,sids,List.nodup_cons,List.nodup_nil,List.not_mem_nil,List.mem_cons,or_false,false_or,not_or,↓evA,evB,evs,evp,mkB,repB,blen,↓retQ,res,resAll,resOne,kill,apartOk,exp,injV,injB,pur,purs,purR,pursR,List.reduceReplicate,Nat.reduceMul,Nat.reduceSub,Nat.reduceEqDiff,Int.reduceToNat,Int.reduceLE,Int.reduceLT,Int.reduceEq,reduceCtorEq,↓reduceIte]
      repeat(refine And.intro (by omega) ?_)
      refine awp_loopA (n:=69) hA [1,2,10,12,51,52] (by decide +kernel) (fun i:Nat=>[.slice 4 0 1 b.length b.length,.int .i64 (a:Int),.ptr 7 0,.int .i64 (n:Int),.int .i64 (n:Int),.int .i64 (i:Int)])
        (fun i=>[.ints true .u64 roots,.dead,.dead,.dead,.ints false .u8 (itr (hidS m a) B1 i),.ints false .u8 k,.ints false .u8 S,.ints false .u8 m]) (fun i=>i≤n) (fun i=>n-i) 0 ?_ (by omega) ?_
      · refine Hd.same ?_
        simp only[itr,↓evA,evB,evs,evp,mkB,repB,blen,↓retQ,res,resAll,resOne,kill,apartOk,exp,injV,injB,pur,purs,purR,pursR,List.reduceReplicate,Nat.reduceAdd,Nat.reduceMul,Nat.reduceSub,Nat.reduceEqDiff,Nat.reduceLT,Int.reduceToNat,Int.reduceLE,Int.reduceLT,Int.reduceEq,reduceCtorEq,↓reduceIte]
      intro i hi K hK
      have hil:=hidS_len (m:=m) (a:=a) (b:=B1) i
      rw[hB1l]at hil
      simp only[s69]
      by_cases hlt:i<n
      · have c1:(i:Int)<(n:Int):=by omega
        have wi:Go.IntKind.i64.wrap ((i:Int)+1)=((i+1:Nat):Int):=by rw[wrap_i64];omega
        have wa2:Go.IntKind.i64.wrap ((a:Int)+(i:Int))=((a+i:Nat):Int):=by rw[wrap_i64];omega
        have w1:Go.IntKind.i64.wrap (1+(i:Int))=((1+i:Nat):Int):=by rw[wrap_i64];omega
        have hst:itr (hidS m a) B1 (i+1)=hidS m a (itr (hidS m a) B1 i) i:=rfl
        obtain⟨z,hz⟩:∃z,itr (hidS m a) B1 i=z:=⟨_,rfl⟩
        rw[hz]at hst hil ⊢
        have e1:a+i<b.length:=by omega
        have e2:1+i<16:=by omega
        simp only[c1,wi,wa2,w1,hil,hml,e1,e2,sub_zero,qdb,qai,List.length_cons,List.length_nil,Nat.reduceAdd,Nat.le_refl,Nat.reduceLeDiff,Nat.reduceLT,true_and,and_true,↓evA,evB,evs,evp,mkB,repB,blen,↓retQ,res,resAll,resOne,kill,apartOk,exp,injV,injB,pur,purs,purR,pursR,List.reduceReplicate,Nat.reduceMul,Nat.reduceSub,Nat.reduceEqDiff,Int.reduceToNat,Int.reduceLE,Int.reduceLT,Int.reduceEq,reduceCtorEq,↓reduceIte]
        repeat(refine And.intro (by omega) ?_)
        refine⟨i+1,hK _ (by omega) (by omega),Hd.same ?_⟩
        simp only[hst,hidS,↓evA,evB,evs,evp,mkB,repB,blen,↓retQ,res,resAll,resOne,kill,apartOk,exp,injV,injB,pur,purs,purR,pursR,List.reduceReplicate,Nat.reduceAdd,Nat.reduceMul,Nat.reduceSub,Nat.reduceEqDiff,Nat.reduceLT,Int.reduceToNat,Int.reduceLE,Int.reduceLT,Int.reduceEq,reduceCtorEq,↓reduceIte]
      obtain rfl:i=n:=by omega
      have c1:¬(i:Int)<(i:Int):=by omega
      rw[←hR]at hil ⊢
      obtain⟨R,hRR⟩:∃R,hidF k b a false=R:=⟨_,rfl⟩
      rw[hRR]at hil hF ⊢
      simp only[c1,hF,hil,sub_zero,qdb,qai,List.length_cons,List.length_nil,Nat.reduceAdd,Nat.le_refl,Nat.reduceLeDiff,Nat.reduceLT,true_and,and_true,↓qar,↓qan,↓qao,↓qap,↓qam,↓qaj,↓qak,↓qaq,↓qal,idsEs,idsE,idss,killB,effE,stA,wBlk,deads,nwA,cntA,cnts,cnt,valO,blkO,inj,injs,blk,blks,outA,outR,outE,outEs,sids,List.nodup_cons,List.nodup_nil,List.not_mem_nil,List.mem_cons,or_false,false_or,not_or,↓evA,evB,evs,evp,mkB,repB,blen,↓retQ,res,resAll,resOne,kill,apartOk,exp,injV,injB,pur,purs,purR,pursR,List.reduceReplicate,Nat.reduceMul,Nat.reduceSub,Nat.reduceEqDiff,Int.reduceToNat,Int.reduceLE,Int.reduceLT,Int.reduceEq,reduceCtorEq,↓reduceIte]
    · have hcn:hnum y=n:=by rw[hc];simp[hy]
      rw[hcn]at hw2
      simp only[ir51,rs51,gl,hF,wa,hmn,cp,hk2,hkl,hk2l,hSl,sS,q,f,hml,pm,b0,hx,h128,←hb1,hy,hw1,hw2,hB1l,sub_zero,qdb,qai,List.length_cons,List.length_nil,Nat.reduceAdd,Nat.le_refl,Nat.reduceLeDiff,Nat.reduceLT,true_and,and_true,↓qar,↓qan,↓qao,↓qap,↓qam,↓qaj,↓qak,↓qaq,↓qal,idsEs,idsE,idss,killB,effE,stA,wBlk,deads,nwA,cntA,cnts,cnt,valO,blkO,inj,injs,blk,blks,outA,outR,outE,outEs,sids,List.nodup_cons,List.nodup_nil,List.not_mem_nil,List.mem_cons,or_false,false_or,not_or,↓evA,evB,evs,evp,mkB,repB,blen,↓retQ,res,resAll,resOne,kill,apartOk,exp,injV,injB,pur,purs,purR,pursR,List.reduceReplicate,Nat.reduceMul,Nat.reduceSub,Nat.reduceEqDiff,Int.reduceToNat,Int.reduceLE,Int.reduceLT,Int.reduceEq,reduceCtorEq,↓reduceIte]
      repeat(refine And.intro (by omega) ?_)
      refine awp_loopA (n:=69) hA [1,2,10,12,51,52] (by decide +kernel) (fun i:Nat=>[.slice 4 0 1 b.length b.length,.int .i64 (a:Int),.ptr 7 0,.int .i64 (n:Int),.int .i64 (n:Int),.int .i64 (i:Int)])
        (fun i=>[.ints true .u64 roots,.dead,.dead,.dead,.ints false .u8 (itr (hidS m a) B1 i),.ints false .u8 k,.ints false .u8 S,.ints false .u8 m]) (fun i=>i≤n) (fun i=>n-i) 0 ?_ (by omega) ?_
      · refine Hd.same ?_
        simp only[itr,↓evA,evB,evs,evp,mkB,repB,blen,↓retQ,res,resAll,resOne,kill,apartOk,exp,injV,injB,pur,purs,purR,pursR,List.reduceReplicate,Nat.reduceAdd,Nat.reduceMul,Nat.reduceSub,Nat.reduceEqDiff,Nat.reduceLT,Int.reduceToNat,Int.reduceLE,Int.reduceLT,Int.reduceEq,reduceCtorEq,↓reduceIte]
      intro i hi K hK
      have hil:=hidS_len (m:=m) (a:=a) (b:=B1) i
      rw[hB1l]at hil
      simp only[s69]
      by_cases hlt:i<n
      · have c1:(i:Int)<(n:Int):=by omega
        have wi:Go.IntKind.i64.wrap ((i:Int)+1)=((i+1:Nat):Int):=by rw[wrap_i64];omega
        have wa2:Go.IntKind.i64.wrap ((a:Int)+(i:Int))=((a+i:Nat):Int):=by rw[wrap_i64];omega
        have w1:Go.IntKind.i64.wrap (1+(i:Int))=((1+i:Nat):Int):=by rw[wrap_i64];omega
        have hst:itr (hidS m a) B1 (i+1)=hidS m a (itr (hidS m a) B1 i) i:=rfl
        obtain⟨z,hz⟩:∃z,itr (hidS m a) B1 i=z:=⟨_,rfl⟩
        rw[hz]at hst hil ⊢
        have e1:a+i<b.length:=by omega
        have e2:1+i<16:=by omega
        simp only[c1,wi,wa2,w1,hil,hml,e1,e2,sub_zero,qdb,qai,List.length_cons,List.length_nil,Nat.reduceAdd,Nat.le_refl,Nat.reduceLeDiff,Nat.reduceLT,true_and,and_true,↓evA,evB,evs,evp,mkB,repB,blen,↓retQ,res,resAll,resOne,kill,apartOk,exp,injV,injB,pur,purs,purR,pursR,List.reduceReplicate,Nat.reduceMul,Nat.reduceSub,Nat.reduceEqDiff,Int.reduceToNat,Int.reduceLE,Int.reduceLT,Int.reduceEq,reduceCtorEq,↓reduceIte]
        repeat(refine And.intro (by omega) ?_)
        refine⟨i+1,hK _ (by omega) (by omega),Hd.same ?_⟩
        simp only[hst,hidS,↓evA,evB,evs,evp,mkB,repB,blen,↓retQ,res,resAll,resOne,kill,apartOk,exp,injV,injB,pur,purs,purR,pursR,List.reduceReplicate,Nat.reduceAdd,Nat.reduceMul,Nat.reduceSub,Nat.reduceEqDiff,Nat.reduceLT,Int.reduceToNat,Int.reduceLE,Int.reduceLT,Int.reduceEq,reduceCtorEq,↓reduceIte]
      obtain rfl:i=n:=by omega
      have c1:¬(i:Int)<(i:Int):=by omega
      rw[←hR]at hil ⊢
      obtain⟨R,hRR⟩:∃R,hidF k b a true=R:=⟨_,rfl⟩
      rw[hRR]at hil hF ⊢
      simp only[c1,hF,hil,sub_zero,qdb,qai,List.length_cons,List.length_nil,Nat.reduceAdd,Nat.le_refl,Nat.reduceLeDiff,Nat.reduceLT,true_and,and_true,↓qar,↓qan,↓qao,↓qap,↓qam,↓qaj,↓qak,↓qaq,↓qal,idsEs,idsE,idss,killB,effE,stA,wBlk,deads,nwA,cntA,cnts,cnt,valO,blkO,inj,injs,blk,blks,outA,outR,outE,outEs,sids,List.nodup_cons,List.nodup_nil,List.not_mem_nil,List.mem_cons,or_false,false_or,not_or,↓evA,evB,evs,evp,mkB,repB,blen,↓retQ,res,resAll,resOne,kill,apartOk,exp,injV,injB,pur,purs,purR,pursR,List.reduceReplicate,Nat.reduceMul,Nat.reduceSub,Nat.reduceEqDiff,Int.reduceToNat,Int.reduceLE,Int.reduceLT,Int.reduceEq,reduceCtorEq,↓reduceIte]
  · have hbt:hbits x=15:=by rw[hbits,if_neg h128]
    rw[hbt]at hb1
    cases hid
    · have hcn:hnum x=n:=by rw[hc];simp[hx]
      rw[hcn]at hw1
      simp only[ir51,rs51,gl,hF,wa,hmn,cp,hk2,hkl,hk2l,hSl,sS,q,f,hml,pm,b0,hx,h128,←hb1,hw1,hB1l,sub_zero,qdb,qai,List.length_cons,List.length_nil,Nat.reduceAdd,Nat.le_refl,Nat.reduceLeDiff,Nat.reduceLT,true_and,and_true,↓qar,↓qan,↓qao,↓qap,↓qam,↓qaj,↓qak,↓qaq,↓qal,idsEs,idsE,idss,killB,effE,stA,wBlk,deads,nwA,cntA,cnts,cnt,valO,blkO,inj,injs,blk,blks,outA,outR,outE,outEs,sids,List.nodup_cons,List.nodup_nil,List.not_mem_nil,List.mem_cons,or_false,false_or,not_or,↓evA,evB,evs,evp,mkB,repB,blen,↓retQ,res,resAll,resOne,kill,apartOk,exp,injV,injB,pur,purs,purR,pursR,List.reduceReplicate,Nat.reduceMul,Nat.reduceSub,Nat.reduceEqDiff,Int.reduceToNat,Int.reduceLE,Int.reduceLT,Int.reduceEq,reduceCtorEq,↓reduceIte]
      repeat(refine And.intro (by omega) ?_)
      refine awp_loopA (n:=69) hA [1,2,10,12,51,52] (by decide +kernel) (fun i:Nat=>[.slice 4 0 1 b.length b.length,.int .i64 (a:Int),.ptr 7 0,.int .i64 (n:Int),.int .i64 (n:Int),.int .i64 (i:Int)])
        (fun i=>[.ints true .u64 roots,.dead,.dead,.dead,.ints false .u8 (itr (hidS m a) B1 i),.ints false .u8 k,.ints false .u8 S,.ints false .u8 m]) (fun i=>i≤n) (fun i=>n-i) 0 ?_ (by omega) ?_
      · refine Hd.same ?_
        simp only[itr,↓evA,evB,evs,evp,mkB,repB,blen,↓retQ,res,resAll,resOne,kill,apartOk,exp,injV,injB,pur,purs,purR,pursR,List.reduceReplicate,Nat.reduceAdd,Nat.reduceMul,Nat.reduceSub,Nat.reduceEqDiff,Nat.reduceLT,Int.reduceToNat,Int.reduceLE,Int.reduceLT,Int.reduceEq,reduceCtorEq,↓reduceIte]
      intro i hi K hK
      have hil:=hidS_len (m:=m) (a:=a) (b:=B1) i
      rw[hB1l]at hil
      simp only[s69]
      by_cases hlt:i<n
      · have c1:(i:Int)<(n:Int):=by omega
        have wi:Go.IntKind.i64.wrap ((i:Int)+1)=((i+1:Nat):Int):=by rw[wrap_i64];omega
        have wa2:Go.IntKind.i64.wrap ((a:Int)+(i:Int))=((a+i:Nat):Int):=by rw[wrap_i64];omega
        have w1:Go.IntKind.i64.wrap (1+(i:Int))=((1+i:Nat):Int):=by rw[wrap_i64];omega
        have hst:itr (hidS m a) B1 (i+1)=hidS m a (itr (hidS m a) B1 i) i:=rfl
        obtain⟨z,hz⟩:∃z,itr (hidS m a) B1 i=z:=⟨_,rfl⟩
        rw[hz]at hst hil ⊢
        have e1:a+i<b.length:=by omega
        have e2:1+i<16:=by omega
        simp only[c1,wi,wa2,w1,hil,hml,e1,e2,sub_zero,qdb,qai,List.length_cons,List.length_nil,Nat.reduceAdd,Nat.le_refl,Nat.reduceLeDiff,Nat.reduceLT,true_and,and_true,↓evA,evB,evs,evp,mkB,repB,blen,↓retQ,res,resAll,resOne,kill,apartOk,exp,injV,injB,pur,purs,purR,pursR,List.reduceReplicate,Nat.reduceMul,Nat.reduceSub,Nat.reduceEqDiff,Int.reduceToNat,Int.reduceLE,Int.reduceLT,Int.reduceEq,reduceCtorEq,↓reduceIte]
        repeat(refine And.intro (by omega) ?_)
        refine⟨i+1,hK _ (by omega) (by omega),Hd.same ?_⟩
        simp only[hst,hidS,↓evA,evB,evs,evp,mkB,repB,blen,↓retQ,res,resAll,resOne,kill,apartOk,exp,injV,injB,pur,purs,purR,pursR,List.reduceReplicate,Nat.reduceAdd,Nat.reduceMul,Nat.reduceSub,Nat.reduceEqDiff,Nat.reduceLT,Int.reduceToNat,Int.reduceLE,Int.reduceLT,Int.reduceEq,reduceCtorEq,↓reduceIte]
      obtain rfl:i=n:=by omega
      have c1:¬(i:Int)<(i:Int):=by omega
      rw[←hR]at hil ⊢
      obtain⟨R,hRR⟩:∃R,hidF k b a false=R:=⟨_,rfl⟩
      rw[hRR]at hil hF ⊢
      simp only[c1,hF,hil,sub_zero,qdb,qai,List.length_cons,List.length_nil,Nat.reduceAdd,Nat.le_refl,Nat.reduceLeDiff,Nat.reduceLT,true_and,and_true,↓qar,↓qan,↓qao,↓qap,↓qam,↓qaj,↓qak,↓qaq,↓qal,idsEs,idsE,idss,killB,effE,stA,wBlk,deads,nwA,cntA,cnts,cnt,valO,blkO,inj,injs,blk,blks,outA,outR,outE,outEs,sids,List.nodup_cons,List.nodup_nil,List.not_mem_nil,List.mem_cons,or_false,false_or,not_or,↓evA,evB,evs,evp,mkB,repB,blen,↓retQ,res,resAll,resOne,kill,apartOk,exp,injV,injB,pur,purs,purR,pursR,List.reduceReplicate,Nat.reduceMul,Nat.reduceSub,Nat.reduceEqDiff,Int.reduceToNat,Int.reduceLE,Int.reduceLT,Int.reduceEq,reduceCtorEq,↓reduceIte]
    · have hcn:hnum y=n:=by rw[hc];simp[hy]
      rw[hcn]at hw2
      simp only[ir51,rs51,gl,hF,wa,hmn,cp,hk2,hkl,hk2l,hSl,sS,q,f,hml,pm,b0,hx,h128,←hb1,hy,hw1,hw2,hB1l,sub_zero,qdb,qai,List.length_cons,List.length_nil,Nat.reduceAdd,Nat.le_refl,Nat.reduceLeDiff,Nat.reduceLT,true_and,and_true,↓qar,↓qan,↓qao,↓qap,↓qam,↓qaj,↓qak,↓qaq,↓qal,idsEs,idsE,idss,killB,effE,stA,wBlk,deads,nwA,cntA,cnts,cnt,valO,blkO,inj,injs,blk,blks,outA,outR,outE,outEs,sids,List.nodup_cons,List.nodup_nil,List.not_mem_nil,List.mem_cons,or_false,false_or,not_or,↓evA,evB,evs,evp,mkB,repB,blen,↓retQ,res,resAll,resOne,kill,apartOk,exp,injV,injB,pur,purs,purR,pursR,List.reduceReplicate,Nat.reduceMul,Nat.reduceSub,Nat.reduceEqDiff,Int.reduceToNat,Int.reduceLE,Int.reduceLT,Int.reduceEq,reduceCtorEq,↓reduceIte]
      repeat(refine And.intro (by omega) ?_)
      refine awp_loopA (n:=69) hA [1,2,10,12,51,52] (by decide +kernel) (fun i:Nat=>[.slice 4 0 1 b.length b.length,.int .i64 (a:Int),.ptr 7 0,.int .i64 (n:Int),.int .i64 (n:Int),.int .i64 (i:Int)])
        (fun i=>[.ints true .u64 roots,.dead,.dead,.dead,.ints false .u8 (itr (hidS m a) B1 i),.ints false .u8 k,.ints false .u8 S,.ints false .u8 m]) (fun i=>i≤n) (fun i=>n-i) 0 ?_ (by omega) ?_
      · refine Hd.same ?_
        simp only[itr,↓evA,evB,evs,evp,mkB,repB,blen,↓retQ,res,resAll,resOne,kill,apartOk,exp,injV,injB,pur,purs,purR,pursR,List.reduceReplicate,Nat.reduceAdd,Nat.reduceMul,Nat.reduceSub,Nat.reduceEqDiff,Nat.reduceLT,Int.reduceToNat,Int.reduceLE,Int.reduceLT,Int.reduceEq,reduceCtorEq,↓reduceIte]
      intro i hi K hK
      have hil:=hidS_len (m:=m) (a:=a) (b:=B1) i
      rw[hB1l]at hil
      simp only[s69]
      by_cases hlt:i<n
      · have c1:(i:Int)<(n:Int):=by omega
        have wi:Go.IntKind.i64.wrap ((i:Int)+1)=((i+1:Nat):Int):=by rw[wrap_i64];omega
        have wa2:Go.IntKind.i64.wrap ((a:Int)+(i:Int))=((a+i:Nat):Int):=by rw[wrap_i64];omega
        have w1:Go.IntKind.i64.wrap (1+(i:Int))=((1+i:Nat):Int):=by rw[wrap_i64];omega
        have hst:itr (hidS m a) B1 (i+1)=hidS m a (itr (hidS m a) B1 i) i:=rfl
        obtain⟨z,hz⟩:∃z,itr (hidS m a) B1 i=z:=⟨_,rfl⟩
        rw[hz]at hst hil ⊢
        have e1:a+i<b.length:=by omega
        have e2:1+i<16:=by omega
        simp only[c1,wi,wa2,w1,hil,hml,e1,e2,sub_zero,qdb,qai,List.length_cons,List.length_nil,Nat.reduceAdd,Nat.le_refl,Nat.reduceLeDiff,Nat.reduceLT,true_and,and_true,↓evA,evB,evs,evp,mkB,repB,blen,↓retQ,res,resAll,resOne,kill,apartOk,exp,injV,injB,pur,purs,purR,pursR,List.reduceReplicate,Nat.reduceMul,Nat.reduceSub,Nat.reduceEqDiff,Int.reduceToNat,Int.reduceLE,Int.reduceLT,Int.reduceEq,reduceCtorEq,↓reduceIte]
        repeat(refine And.intro (by omega) ?_)
        refine⟨i+1,hK _ (by omega) (by omega),Hd.same ?_⟩
        simp only[hst,hidS,↓evA,evB,evs,evp,mkB,repB,blen,↓retQ,res,resAll,resOne,kill,apartOk,exp,injV,injB,pur,purs,purR,pursR,List.reduceReplicate,Nat.reduceAdd,Nat.reduceMul,Nat.reduceSub,Nat.reduceEqDiff,Nat.reduceLT,Int.reduceToNat,Int.reduceLE,Int.reduceLT,Int.reduceEq,reduceCtorEq,↓reduceIte]
      obtain rfl:i=n:=by omega
      have c1:¬(i:Int)<(i:Int):=by omega
      rw[←hR]at hil ⊢
      obtain⟨R,hRR⟩:∃R,hidF k b a true=R:=⟨_,rfl⟩
      rw[hRR]at hil hF ⊢
      simp only[c1,hF,hil,sub_zero,qdb,qai,List.length_cons,List.length_nil,Nat.reduceAdd,Nat.le_refl,Nat.reduceLeDiff,Nat.reduceLT,true_and,and_true,↓qar,↓qan,↓qao,↓qap,↓qam,↓qaj,↓qak,↓qaq,↓qal,idsEs,idsE,idss,killB,effE,stA,wBlk,deads,nwA,cntA,cnts,cnt,valO,blkO,inj,injs,blk,blks,outA,outR,outE,outEs,sids,List.nodup_cons,List.nodup_nil,List.not_mem_nil,List.mem_cons,or_false,false_or,not_or,↓evA,evB,evs,evp,mkB,repB,blen,↓retQ,res,resAll,resOne,kill,apartOk,exp,injV,injB,pur,purs,purR,pursR,List.reduceReplicate,Nat.reduceMul,Nat.reduceSub,Nat.reduceEqDiff,Int.reduceToNat,Int.reduceLE,Int.reduceLT,Int.reduceEq,reduceCtorEq,↓reduceIte]
end Am
set_option maxRecDepth 20000
namespace Am
open Go.Proofs
/-! ### Words of 64 bits -/
theorem x64 {a b:Nat} (ha:a<2^64) (hb:b<2^64):bXor .u64 (a:Int) (b:Int)=((a ^^^ b:Nat):Int):=by
  have hx:a ^^^ b<2^64:=Nat.xor_lt_two_pow ha hb
  unfold bXor
  show Go.IntKind.u64.wrap (((BitVec.ofInt 64 (a:Int) ^^^ BitVec.ofInt 64 (b:Int)).toNat:Nat):Int)=_
  rw[BitVec.ofInt_natCast,BitVec.ofInt_natCast,BitVec.toNat_xor,BitVec.toNat_ofNat,BitVec.toNat_ofNat,Nat.mod_eq_of_lt ha,Nat.mod_eq_of_lt hb,wrap_u64]
  omega
theorem o64 {a b:Nat} (ha:a<2^64) (hb:b<2^64):bOr .u64 (a:Int) (b:Int)=((a ||| b:Nat):Int):=by
  have hx:a ||| b<2^64:=Nat.or_lt_two_pow ha hb
  unfold bOr
  show Go.IntKind.u64.wrap (((BitVec.ofInt 64 (a:Int) ||| BitVec.ofInt 64 (b:Int)).toNat:Nat):Int)=_
  rw[BitVec.ofInt_natCast,BitVec.ofInt_natCast,BitVec.toNat_or,BitVec.toNat_ofNat,BitVec.toNat_ofNat,Nat.mod_eq_of_lt ha,Nat.mod_eq_of_lt hb,wrap_u64]
  omega
theorem a64 {a b:Nat} (ha:a<2^64) (hb:b<2^64):bAnd .u64 (a:Int) (b:Int)=((a &&& b:Nat):Int):=by
  have hx:a &&& b<2^64:=Nat.and_lt_two_pow _ hb
  unfold bAnd
  show Go.IntKind.u64.wrap (((BitVec.ofInt 64 (a:Int) &&& BitVec.ofInt 64 (b:Int)).toNat:Nat):Int)=_
  rw[BitVec.ofInt_natCast,BitVec.ofInt_natCast,BitVec.toNat_and,BitVec.toNat_ofNat,BitVec.toNat_ofNat,Nat.mod_eq_of_lt ha,Nat.mod_eq_of_lt hb,wrap_u64]
  omega
theorem an8 {a b:Nat} (ha:a<256) (hb:b<256):bAnd .u8 (a:Int) (b:Int)=((a &&& b:Nat):Int):=by
  have hx:a &&& b<256:=Nat.and_lt_two_pow (n:=8) _ hb
  unfold bAnd
  show Go.IntKind.u8.wrap (((BitVec.ofInt 8 (a:Int) &&& BitVec.ofInt 8 (b:Int)).toNat:Nat):Int)=_
  rw[BitVec.ofInt_natCast,BitVec.ofInt_natCast,BitVec.toNat_and,BitVec.toNat_ofNat,BitVec.toNat_ofNat,Nat.mod_eq_of_lt (by simpa using ha),Nat.mod_eq_of_lt (by simpa using hb),wrap_u8]
  omega
theorem fdiv_nat (n m:Nat):(n:Int).fdiv ((2:Int)^m)=((n/2^m:Nat):Int):=by
  have e:((2:Int)^m)=((2^m:Nat):Int):=by simp
  rw[e,Int.fdiv_eq_ediv_of_nonneg _ (Int.natCast_nonneg _)]
  simp
end Am
set_option maxRecDepth 20000
namespace Am
open Go.Proofs
/-! ### How many bytes of a number are sent -/
def shortN (d:Nat):Nat:=if 2*d+1<256 then 1 else if 2*d+1<65536 then 2 else if 2*d+1<16777216 then 3 else 4
def preShort (ds:List D):Prop:=∃pn ac:Nat,ds=[.v (.int .u64 (pn:Int)),.v (.int .u64 (ac:Int))]∧ac≤pn∧pn<4611686018427387904
def F47:List D→Out
  | [.v (.int _ pn),.v (.int _ ac)]=>.one (.v (.int .i64 (shortN (pn.toNat-ac.toNat):Nat)))
  | _=>bad
def s47:Summ:=sData [.v,.v] preShort F47
def pw8:Nat→Nat
  | 0=>1
  | n+1=>256*pw8 n
theorem shl_pw:∀n:Nat,n≤4→iShl .u64 1 ((8*n:Nat):Int)=((pw8 n:Nat):Int):=fun n hn=>by
  rcases (by omega:n=0∨n=1∨n=2∨n=3∨n=4)with rfl | rfl | rfl | rfl | rfl<;>decide +kernel
set_option maxHeartbeats 2000000 in
theorem ok47 {g:List Blk} [Ge gl g]:SumOK Tryd.prog g 47 s47∧SumAbs s47:=by
  refine fsumA (l:=[]) mixed gl_plain rfl Tryd.func47 comp47 compR47 nt47 (by simp) fun ds ⟨pn,ac,hd,hac,hpn⟩ hA=>?_
  subst hd
  have hF:F47 [.v (.int .u64 (pn:Int)),.v (.int .u64 (ac:Int))]=.one (.v (.int .i64 (shortN (pn-ac):Nat))):=rfl
  obtain⟨d,hdd⟩:∃d,pn-ac=d:=⟨_,rfl⟩
  rw[hdd]at hF
  have w1:Go.IntKind.u64.wrap ((pn:Int)-(ac:Int))=(d:Int):=by rw[wrap_u64];omega
  have w2:Go.IntKind.u64.wrap ((d:Int)*2)=((2*d:Nat):Int):=by rw[wrap_u64];omega
  have w3:Go.IntKind.u64.wrap (((2*d:Nat):Int)+1)=((2*d+1:Nat):Int):=by rw[wrap_u64];omega
  simp only[ir47,rs47,gl,hF,sub_zero,qdb,qai,List.length_cons,List.length_nil,Nat.reduceAdd,Nat.le_refl,Nat.reduceLeDiff,Nat.reduceLT,true_and,and_true,↓evA,evB,evs,evp,mkB,repB,blen,↓retQ,res,resAll,resOne,kill,apartOk,exp,injV,injB,pur,purs,purR,pursR,List.reduceReplicate,Nat.reduceMul,Nat.reduceSub,Nat.reduceEqDiff,Int.reduceToNat,Int.reduceLE,Int.reduceLT,Int.reduceEq,reduceCtorEq,↓reduceIte]
  refine awp_loopA (n:=22) hA [0,1,5] (by decide +kernel) (fun n:Nat=>[.int .u64 (pn:Int),.int .u64 (ac:Int),.int .i64 (n:Int)])
    (fun n=>[.ints true .u64 roots,.dead,.dead,.dead]) (fun n=>1≤n∧n≤4∧∀m,1≤m→m<n→pw8 m≤2*d+1) (fun n=>4-n) 1 ?_ ⟨by omega,by omega,fun m h1 h2=>by omega⟩ ?_
  · refine Hd.same ?_
    simp only[show ((1:Nat):Int)=1 from rfl,↓evA,evB,evs,evp,mkB,repB,blen,↓retQ,res,resAll,resOne,kill,apartOk,exp,injV,injB,pur,purs,purR,pursR,List.reduceReplicate,Nat.reduceAdd,Nat.reduceMul,Nat.reduceSub,Nat.reduceEqDiff,Nat.reduceLT,Int.reduceToNat,Int.reduceLE,Int.reduceLT,Int.reduceEq,reduceCtorEq,↓reduceIte]
  intro n ⟨hn1,hn4,hm⟩ K hK
  have w8:Go.IntKind.i64.wrap (8*(n:Int))=((8*n:Nat):Int):=by rw[wrap_i64];omega
  have wi:Go.IntKind.i64.wrap ((n:Int)+1)=((n+1:Nat):Int):=by rw[wrap_i64];omega
  have hsh:=shl_pw n hn4
  have fin:(n=4∨2*d+1<pw8 n)→shortN d=n:=fun h=>by
    have e1:pw8 1=256:=rfl
    have e2:pw8 2=65536:=rfl
    have e3:pw8 3=16777216:=rfl
    have m1:=hm 1
    have m2:=hm 2
    have m3:=hm 3
    unfold shortN
    rcases (by omega:n=1∨n=2∨n=3∨n=4)with rfl | rfl | rfl | rfl
    all_goals
      simp only[e1,e2,e3]at h m1 m2 m3
      repeat(first | (rw[if_pos (by omega)];done) | rw[if_neg (by omega)])
  by_cases h4:n<4
  · have c1:(n:Int)<4:=by omega
    obtain⟨W,hW⟩:∃W,pw8 n=W:=⟨_,rfl⟩
    rw[hW]at hsh
    by_cases hge:W≤2*d+1
    · have c2:(W:Int)≤((2*d+1:Nat):Int):=by omega
      simp only[c1,c2,w1,w2,w3,w8,wi,hsh,sub_zero,qdb,qai,List.length_cons,List.length_nil,Nat.reduceAdd,Nat.le_refl,Nat.reduceLeDiff,Nat.reduceLT,true_and,and_true,↓evA,evB,evs,evp,mkB,repB,blen,↓retQ,res,resAll,resOne,kill,apartOk,exp,injV,injB,pur,purs,purR,pursR,List.reduceReplicate,Nat.reduceMul,Nat.reduceSub,Nat.reduceEqDiff,Int.reduceToNat,Int.reduceLE,Int.reduceLT,Int.reduceEq,reduceCtorEq,↓reduceIte]
      repeat(refine And.intro (by omega) ?_)
      refine⟨n+1,hK _ ⟨by omega,by omega,fun m h1 h2=>?_⟩ (by omega),Hd.same ?_⟩
      · rcases (by omega:m<n∨m=n)with h | rfl
        · exact hm m h1 h
        · rw[hW];exact hge
      · simp only[↓evA,evB,evs,evp,mkB,repB,blen,↓retQ,res,resAll,resOne,kill,apartOk,exp,injV,injB,pur,purs,purR,pursR,List.reduceReplicate,Nat.reduceAdd,Nat.reduceMul,Nat.reduceSub,Nat.reduceEqDiff,Nat.reduceLT,Int.reduceToNat,Int.reduceLE,Int.reduceLT,Int.reduceEq,reduceCtorEq,↓reduceIte]
    · have c2:¬(W:Int)≤((2*d+1:Nat):Int):=by omega
      have hf:=fin (.inr (by rw[hW];omega))
      simp only[c1,c2,w1,w2,w3,w8,wi,hsh,hf,sub_zero,qdb,qai,List.length_cons,List.length_nil,Nat.reduceAdd,Nat.le_refl,Nat.reduceLeDiff,Nat.reduceLT,true_and,and_true,↓evA,evB,evs,evp,mkB,repB,blen,↓retQ,res,resAll,resOne,kill,apartOk,exp,injV,injB,pur,purs,purR,pursR,List.reduceReplicate,Nat.reduceMul,Nat.reduceSub,Nat.reduceEqDiff,Int.reduceToNat,Int.reduceLE,Int.reduceLT,Int.reduceEq,reduceCtorEq,↓reduceIte]
      repeat(refine And.intro (by omega) ?_)
      exact out_int rfl
  · have c1:¬(n:Int)<4:=by omega
    have hf:=fin (.inl (by omega))
    simp only[c1,hf,sub_zero,qdb,qai,List.length_cons,List.length_nil,Nat.reduceAdd,Nat.le_refl,Nat.reduceLeDiff,Nat.reduceLT,true_and,and_true,↓evA,evB,evs,evp,mkB,repB,blen,↓retQ,res,resAll,resOne,kill,apartOk,exp,injV,injB,pur,purs,purR,pursR,List.reduceReplicate,Nat.reduceMul,Nat.reduceSub,Nat.reduceEqDiff,Int.reduceToNat,Int.reduceLE,Int.reduceLT,Int.reduceEq,reduceCtorEq,↓reduceIte]
    exact out_int rfl
end Am
