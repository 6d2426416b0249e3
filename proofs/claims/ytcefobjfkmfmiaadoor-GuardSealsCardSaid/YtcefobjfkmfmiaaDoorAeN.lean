/-
Working texts: contracts of functions, and the numbers behind them.
-/
import Derived.Test.YtcefobjfkmfmiaaDoorAeA
import Derived.Test.YtcefobjfkmfmiaaDoorIrAeC
import Derived.Test.YtcefobjfkmfmiaaDoorAmLoop
set_option linter.unusedSimpArgs false
set_option linter.unusedVariables false
set_option linter.unusedSectionVars false
set_option maxRecDepth 20000
namespace Am
open Go.Proofs
/-! ### A key made ready: the rounds' keys and the box, 432 bytes -/
def itr {α:Type} (f:α→Nat→α) (x:α):Nat→α
  | 0=>x
  | n+1=>f (itr f x n) n
theorem itr_inv {α:Type} {f:α→Nat→α} {x:α} (J:Nat→α→Prop) (h0:J 0 x) (hs:∀n y,J n y→J (n+1) (f y n)):∀n,J n (itr f x n)
  | 0=>h0
  | n+1=>hs n _ (itr_inv J h0 hs n)
theorem blks_ints {k:Go.IntKind}:∀{xs:List Int} {n:Nat},blks (xs.map fun x=>E.v (.int k x)) n=[]
  | [],_=>rfl
  | x::xs,n=>by simp only[List.map_cons,blks,blk,cnt,Nat.add_zero,List.nil_append,blks_ints (xs:=xs)]
theorem injs_ints {k:Go.IntKind}:∀{xs:List Int} {n:Nat},injs (xs.map fun x=>E.v (.int k x)) n=xs.map (V.int k)
  | [],_=>rfl
  | x::xs,n=>by simp only[List.map_cons,injs,inj,cnt,Nat.add_zero,injs_ints (xs:=xs)]
theorem cnts_ints {k:Go.IntKind}:∀{xs:List Int},cnts (xs.map fun x=>E.v (.int k x))=0
  | []=>rfl
  | x::xs=>by simp only[List.map_cons,cnts,cnt,Nat.zero_add,cnts_ints (xs:=xs)]
theorem outEs_ints {hp:List Blk} {k:Go.IntKind} {used:List Nat} {K:List Nat→Prop}:∀{xs:List Int},K used→outEs hp (xs.map fun x=>E.v (.int k x)) (xs.map (V.int k)) used K
  | [],h=>by simpa[outEs]using h
  | x::xs,h=>by
    simp only[List.map_cons,outEs,outE]
    exact⟨by simp[pur],outEs_ints h⟩
def lay0 (k:List Int):List Int:=k++List.replicate 416 0
def bxs (k:List Int) (n:Nat):List Int:=itr (fun l i=>l.set (176+i) (subE i)) (lay0 k) n
def innst (last:List Int) (i:Nat) (s:List Int×List Int) (j:Nat):List Int×List Int :=
  (s.1.set (j%4) (bXor .u8 (getI s.1 (j%4)) (getI last j)),s.2.set (i*16+j) (bXor .u8 (getI s.1 (j%4)) (getI last j)))
def kw (x:Int) (L last:List Int):List Int:=[bXor .u8 (getI L (176+(getI last 13).toNat)) x,getI L (176+(getI last 14).toNat),getI L (176+(getI last 15).toNat),getI L (176+(getI last 12).toNat)]
def kst (s:Int×List Int) (m:Nat):Int×List Int:=(twi s.1,(itr (innst (sub s.2 (m*16) 16) (m+1)) (kw s.1 s.2 (sub s.2 (m*16) 16),s.2) 16).2)
def newF (k:List Int):List Int:=(itr kst (1,bxs k 256) 10).2
theorem x8_bd (a b:Int):0≤bXor .u8 a b∧bXor .u8 a b<256:=by unfold bXor;rw[wrap_u8];omega
def L432 (l:List Int):Prop:=l.length=432∧Dig 256 l
theorem subE_bd (x:Int):0≤subE x∧subE x<256:=x8_bd _ _
theorem bxs_ok {k:List Int} (h:k.length=16) (hd:Dig 256 k) (n:Nat):L432 (bxs k n):=by
  refine itr_inv (fun _ (l:List Int)=>L432 l) ⟨by simp[lay0,h],Dig.append hd (Dig.replicate _ (by decide))⟩ (fun n l hl=>⟨by simp[hl.1],hl.2.set _ (subE_bd _).1 (subE_bd _).2⟩) n
theorem innst_ok {last w L:List Int} {i:Nat} (hw:w.length=4) (hwd:Dig 256 w) (hL:L432 L) (n:Nat):(itr (innst last i) (w,L) n).1.length=4∧Dig 256 (itr (innst last i) (w,L) n).1∧L432 (itr (innst last i) (w,L) n).2:=by
  refine itr_inv (fun _ (s:List Int×List Int)=>s.1.length=4∧Dig 256 s.1∧L432 s.2) ⟨hw,hwd,hL⟩ (fun n s hs=>?_) n
  have hb:=x8_bd (getI s.1 (n%4)) (getI last n)
  exact⟨by simp[innst,hs.1],hs.2.1.set _ hb.1 hb.2,by simp[innst,hs.2.2.1],hs.2.2.2.set _ hb.1 hb.2⟩
theorem kw_ok {x:Int} {L last:List Int} (hL:L432 L):(kw x L last).length=4∧Dig 256 (kw x L last):=by
  have ha:=fun j=>hL.2.all (by decide) j
  refine⟨rfl,fun y hy=>?_⟩
  simp only[kw,List.mem_cons,List.not_mem_nil,or_false]at hy
  rcases hy with rfl | rfl | rfl | rfl
  · exact x8_bd _ _
  all_goals exact ha _
theorem kst_ok {s:Int×List Int} (h:L432 s.2) (m:Nat):L432 (kst s m).2:=by
  have hk:=kw_ok (x:=s.1) (last:=sub s.2 (m*16) 16) h
  have hi:=innst_ok (last:=sub s.2 (m*16) 16) (i:=m+1) hk.1 hk.2 h 16
  simp only[kst]
  exact hi.2.2
theorem keys_ok {B:List Int} (h:L432 B) (n:Nat):L432 (itr kst (1,B) n).2:=by
  refine itr_inv (fun _ (s:Int×List Int)=>L432 s.2) ?_ (fun n s hs=>kst_ok hs n) n
  exact h
def preBlk (ds:List E):Prop:=∃k:List Int,ds=[.v (.ints .u8 k)]∧k.length=16∧Dig 256 k
def F66:List E→List (List E)×EOut
  | [.v (.ints _ k)]=>([],.one (.p ((newF k).map fun x=>.v (.int .u8 x))))
  | _=>([],.one (.v .nilp))
def s66:Summ:=sEff [.v] preBlk F66
set_option maxHeartbeats 4000000 in
theorem ok66 {g:List Blk} [Ge gl g]:SumOK Tryd.prog g 66 s66∧SumAbs s66:=by
  refine esumA (l:=[(75,s75),(76,s76)]) mixed gl_plain rfl Tryd.func66 comp66 compR66 nt66 (by simp only[List.mem_cons,List.not_mem_nil,or_false,forall_eq_or_imp,forall_eq];exact⟨ok75,ok76⟩) fun ds ⟨k,hd,hk,hkd⟩ hA=>?_
  subst hd
  have hF:F66 [.v (.ints .u8 k)]=([],.one (.p ((newF k).map fun x=>.v (.int .u8 x)))):=rfl
  obtain⟨R,hR⟩:∃R,newF k=R:=⟨_,rfl⟩
  rw[hR]at hF
  have sk:sub k 0 16=k:=sub_zero hk
  have e1:spl [0,0,0,0,0,0,0,0,0,0,0,0,0,0,0,0,0,0,0,0,0,0,0,0,0,0,0,0,0,0,0,0,0,0,0,0,0,0,0,0,0,0,0,0,0,0,0,0,0,0,0,0,0,0,0,0,0,0,0,0,0,0,0,0,0,0,0,0,0,0,0,0,0,0,0,0,0,0,0,0,0,0,0,0,0,0,0,0,0,0,0,0,0,0,0,0,0,0,0,0,0,0,0,0,0,0,0,0,0,0,0,0,0,0,0,0,0,0,0,0,0,0,0,0,0,0,0,0,0,0,0,0,0,0,0,0,0,0,0,0,0,0,0,0,0,0,0,0,0,0,0,0,0,0,0,0,0,0,0,0,0,0,0,0,0,0,0,0,0,0,0,0,0,0,0,0] 0 k=k++List.replicate 160 0:=by
    rw[show ([0,0,0,0,0,0,0,0,0,0,0,0,0,0,0,0,0,0,0,0,0,0,0,0,0,0,0,0,0,0,0,0,0,0,0,0,0,0,0,0,0,0,0,0,0,0,0,0,0,0,0,0,0,0,0,0,0,0,0,0,0,0,0,0,0,0,0,0,0,0,0,0,0,0,0,0,0,0,0,0,0,0,0,0,0,0,0,0,0,0,0,0,0,0,0,0,0,0,0,0,0,0,0,0,0,0,0,0,0,0,0,0,0,0,0,0,0,0,0,0,0,0,0,0,0,0,0,0,0,0,0,0,0,0,0,0,0,0,0,0,0,0,0,0,0,0,0,0,0,0,0,0,0,0,0,0,0,0,0,0,0,0,0,0,0,0,0,0,0,0,0,0,0,0,0,0]:List Int)=List.replicate 176 0 from rfl]
    simp[spl,hk]
  have e2:spl [0,0,0,0,0,0,0,0,0,0,0,0,0,0,0,0,0,0,0,0,0,0,0,0,0,0,0,0,0,0,0,0,0,0,0,0,0,0,0,0,0,0,0,0,0,0,0,0,0,0,0,0,0,0,0,0,0,0,0,0,0,0,0,0,0,0,0,0,0,0,0,0,0,0,0,0,0,0,0,0,0,0,0,0,0,0,0,0,0,0,0,0,0,0,0,0,0,0,0,0,0,0,0,0,0,0,0,0,0,0,0,0,0,0,0,0,0,0,0,0,0,0,0,0,0,0,0,0,0,0,0,0,0,0,0,0,0,0,0,0,0,0,0,0,0,0,0,0,0,0,0,0,0,0,0,0,0,0,0,0,0,0,0,0,0,0,0,0,0,0,0,0,0,0,0,0,0,0,0,0,0,0,0,0,0,0,0,0,0,0,0,0,0,0,0,0,0,0,0,0,0,0,0,0,0,0,0,0,0,0,0,0,0,0,0,0,0,0,0,0,0,0,0,0,0,0,0,0,0,0,0,0,0,0,0,0,0,0,0,0,0,0,0,0,0,0,0,0,0,0,0,0,0,0,0,0,0,0,0,0,0,0,0,0,0,0,0,0,0,0,0,0,0,0,0,0,0,0,0,0,0,0,0,0,0,0,0,0,0,0,0,0,0,0,0,0,0,0,0,0,0,0,0,0,0,0,0,0,0,0,0,0,0,0,0,0,0,0,0,0,0,0,0,0,0,0,0,0,0,0,0,0,0,0,0,0,0,0,0,0,0,0,0,0,0,0,0,0,0,0,0,0,0,0,0,0,0,0,0,0,0,0,0,0,0,0,0,0,0,0,0,0,0,0,0,0,0,0,0,0,0,0,0,0,0,0,0,0,0,0,0,0,0,0,0,0,0,0,0,0,0,0,0,0,0,0,0,0,0,0,0,0,0,0,0,0,0,0,0,0,0,0,0,0,0,0,0,0,0,0,0,0] 0 (k++List.replicate 160 0)=lay0 k:=by
    rw[show ([0,0,0,0,0,0,0,0,0,0,0,0,0,0,0,0,0,0,0,0,0,0,0,0,0,0,0,0,0,0,0,0,0,0,0,0,0,0,0,0,0,0,0,0,0,0,0,0,0,0,0,0,0,0,0,0,0,0,0,0,0,0,0,0,0,0,0,0,0,0,0,0,0,0,0,0,0,0,0,0,0,0,0,0,0,0,0,0,0,0,0,0,0,0,0,0,0,0,0,0,0,0,0,0,0,0,0,0,0,0,0,0,0,0,0,0,0,0,0,0,0,0,0,0,0,0,0,0,0,0,0,0,0,0,0,0,0,0,0,0,0,0,0,0,0,0,0,0,0,0,0,0,0,0,0,0,0,0,0,0,0,0,0,0,0,0,0,0,0,0,0,0,0,0,0,0,0,0,0,0,0,0,0,0,0,0,0,0,0,0,0,0,0,0,0,0,0,0,0,0,0,0,0,0,0,0,0,0,0,0,0,0,0,0,0,0,0,0,0,0,0,0,0,0,0,0,0,0,0,0,0,0,0,0,0,0,0,0,0,0,0,0,0,0,0,0,0,0,0,0,0,0,0,0,0,0,0,0,0,0,0,0,0,0,0,0,0,0,0,0,0,0,0,0,0,0,0,0,0,0,0,0,0,0,0,0,0,0,0,0,0,0,0,0,0,0,0,0,0,0,0,0,0,0,0,0,0,0,0,0,0,0,0,0,0,0,0,0,0,0,0,0,0,0,0,0,0,0,0,0,0,0,0,0,0,0,0,0,0,0,0,0,0,0,0,0,0,0,0,0,0,0,0,0,0,0,0,0,0,0,0,0,0,0,0,0,0,0,0,0,0,0,0,0,0,0,0,0,0,0,0,0,0,0,0,0,0,0,0,0,0,0,0,0,0,0,0,0,0,0,0,0,0,0,0,0,0,0,0,0,0,0,0,0,0,0,0,0,0,0,0,0,0,0,0,0,0,0,0,0,0,0]:List Int)=List.replicate 432 0 from rfl]
    simp[spl,hk,lay0]
  have l1:(k++List.replicate 160 (0:Int)).length=176:=by simp[hk]
  simp only[s75,s76]
  obtain⟨K0,hK0⟩:∃K0,k++List.replicate 160 (0:Int)=K0:=⟨_,rfl⟩
  rw[hK0]at e1 e2 l1
  simp only[ir66,rs66,gl,hF,hk,sk,e1,e2,l1,sub_zero,qdb,qai,List.length_cons,List.length_nil,Nat.reduceAdd,Nat.le_refl,Nat.reduceLeDiff,Nat.reduceLT,true_and,and_true,↓qar,↓qan,↓qao,↓qap,↓qam,↓qaj,↓qak,↓qaq,↓qal,idsEs,idsE,idss,killB,effE,stA,wBlk,deads,nwA,cntA,cnts,cnt,valO,blkO,inj,injs,blk,blks,outA,outR,outE,outEs,sids,List.nodup_cons,List.nodup_nil,List.not_mem_nil,List.mem_cons,or_false,false_or,not_or,↓evA,evB,evs,evp,mkB,repB,blen,↓retQ,res,resAll,resOne,kill,apartOk,exp,injV,injB,pur,purs,purR,pursR,List.reduceReplicate,Nat.reduceMul,Nat.reduceSub,Nat.reduceEqDiff,Int.reduceToNat,Int.reduceLE,Int.reduceLT,Int.reduceEq,reduceCtorEq,↓reduceIte]
  refine awp_loopA (n:=95) hA [3,14] (by decide +kernel) (fun i:Nat=>[.ptr 5 0,.int .i64 i])
    (fun i=>[.ints true .u64 roots,.dead,.dead,.dead,.ints false .u8 k,.ints false .u8 (bxs k i)]) (fun i=>i≤256) (fun i=>256-i) 0 ?_ (by omega) ?_
  · refine Hd.same ?_
    simp only[bxs,itr,↓evA,evB,evs,evp,mkB,repB,blen,↓retQ,res,resAll,resOne,kill,apartOk,exp,injV,injB,pur,purs,purR,pursR,List.reduceReplicate,Nat.reduceAdd,Nat.reduceMul,Nat.reduceSub,Nat.reduceEqDiff,Nat.reduceLT,Int.reduceToNat,Int.reduceLE,Int.reduceLT,Int.reduceEq,reduceCtorEq,↓reduceIte]
  intro i hi K hK
  have hl:=(bxs_ok hk hkd i).1
  simp only[s75,s76]
  by_cases hlt:i<256
  · have c1:(i:Int)<256:=by omega
    have wi:Go.IntKind.i64.wrap ((i:Int)+1)=((i+1:Nat):Int):=by rw[wrap_i64];omega
    have w8:Go.IntKind.u8.wrap (i:Int)=(i:Int):=by rw[wrap_u8];omega
    have q:preU8 [.v (.int .u8 (i:Int))]:=⟨_,rfl⟩
    have hs:bxs k (i+1)=(bxs k i).set (176+i) (subE i):=rfl
    have hlt2:176+i<432:=by omega
    obtain⟨w,hw⟩:∃w,bxs k i=w:=⟨_,rfl⟩
    rw[hw]at hl hs
    rw[hw]
    simp only[c1,wi,w8,q,hl,hlt,hlt2,s75,F75,sub_zero,qdb,qai,List.length_cons,List.length_nil,Nat.reduceAdd,Nat.le_refl,Nat.reduceLeDiff,Nat.reduceLT,true_and,and_true,↓evA,evB,evs,evp,mkB,repB,blen,↓retQ,res,resAll,resOne,kill,apartOk,exp,injV,injB,pur,purs,purR,pursR,List.reduceReplicate,Nat.reduceMul,Nat.reduceSub,Nat.reduceEqDiff,Int.reduceToNat,Int.reduceLE,Int.reduceLT,Int.reduceEq,reduceCtorEq,↓reduceIte]
    repeat(refine And.intro (by omega) ?_)
    refine⟨i+1,hK _ (by omega) (by omega),Hd.same ?_⟩
    simp only[hs,↓evA,evB,evs,evp,mkB,repB,blen,↓retQ,res,resAll,resOne,kill,apartOk,exp,injV,injB,pur,purs,purR,pursR,List.reduceReplicate,Nat.reduceAdd,Nat.reduceMul,Nat.reduceSub,Nat.reduceEqDiff,Nat.reduceLT,Int.reduceToNat,Int.reduceLE,Int.reduceLT,Int.reduceEq,reduceCtorEq,↓reduceIte]
  obtain rfl:i=256:=by omega
  have c1:¬((256:Nat):Int)<256:=by omega
  simp only[c1,sub_zero,qdb,qai,List.length_cons,List.length_nil,Nat.reduceAdd,Nat.le_refl,Nat.reduceLeDiff,Nat.reduceLT,true_and,and_true,↓evA,evB,evs,evp,mkB,repB,blen,↓retQ,res,resAll,resOne,kill,apartOk,exp,injV,injB,pur,purs,purR,pursR,List.reduceReplicate,Nat.reduceMul,Nat.reduceSub,Nat.reduceEqDiff,Int.reduceToNat,Int.reduceLE,Int.reduceLT,Int.reduceEq,reduceCtorEq,↓reduceIte]
  clear hK K hi hlt c1 hl
  refine awp_loopA (n:=95) hA [3,5,6] (by decide +kernel) (fun m:Nat=>[.ptr 5 0,.int .u8 (itr kst (1,bxs k 256) m).1,.int .i64 ((m+1:Nat):Int)])
    (fun m=>[.ints true .u64 roots,.dead,.dead,.dead,.ints false .u8 k,.ints false .u8 (itr kst (1,bxs k 256) m).2]) (fun m=>m≤10) (fun m=>10-m) 0 ?_ (by omega) ?_
  · refine Hd.same ?_
    simp only[itr,show ((0+1:Nat):Int)=1 from rfl,↓evA,evB,evs,evp,mkB,repB,blen,↓retQ,res,resAll,resOne,kill,apartOk,exp,injV,injB,pur,purs,purR,pursR,List.reduceReplicate,Nat.reduceAdd,Nat.reduceMul,Nat.reduceSub,Nat.reduceEqDiff,Nat.reduceLT,Int.reduceToNat,Int.reduceLE,Int.reduceLT,Int.reduceEq,reduceCtorEq,↓reduceIte]
  intro m hm K hK
  have hok:=keys_ok (bxs_ok hk hkd 256) m
  simp only[s75,s76]
  by_cases hlt:m<10
  · have c1:((m+1:Nat):Int)<11:=by omega
    have wi:Go.IntKind.i64.wrap (((m+1:Nat):Int)+1)=((m+1+1:Nat):Int):=by rw[wrap_i64];omega
    have wd:Go.IntKind.i64.wrap (((m+1:Nat):Int)-1)=(m:Int):=by rw[wrap_i64];omega
    have hst:itr kst (1,bxs k 256) (m+1)=kst (itr kst (1,bxs k 256) m) m:=rfl
    obtain⟨⟨x,L⟩,hs⟩:∃s,itr kst (1,bxs k 256) m=s:=⟨_,rfl⟩
    rw[hs]at hst hok
    rw[hs]
    simp only[kst]at hst hok
    have hLl:=hok.1
    obtain⟨la,hla⟩:∃la,sub L (m*16) 16=la:=⟨_,rfl⟩
    rw[hla]at hst
    have lal:la.length=16:=by rw[←hla];simp[sub,hLl];omega
    have lad:Dig 256 la:=by rw[←hla];exact fun y hy=>hok.2 y (List.mem_of_mem_drop (List.mem_of_mem_take hy))
    have pla:spl [0,0,0,0,0,0,0,0,0,0,0,0,0,0,0,0] 0 la=la:=qdb (by simp[lal])
    have b:∀j,(getI la j).toNat<256∧0≤getI la j∧getI la j<256:=fun j=>by have:=lad.all (by decide) j;omega
    have b12:=b 12
    have b13:=b 13
    have b14:=b 14
    have b15:=b 15
    have m16:m*16+16≤432:=by omega
    have mlt:m<11:=by omega
    have hkw:=kw_ok (x:=x) (last:=la) hok
    have pW:∀w:List Int,w.length=4→spl [0,0,0,0] 0 w=w:=fun w h=>qdb (by simp[h])
    have ekw:[bXor .u8 (getI L (176+(getI la 13).toNat)) x,getI L (176+(getI la 14).toNat),getI L (176+(getI la 15).toNat),getI L (176+(getI la 12).toNat)]=kw x L la:=rfl
    obtain⟨W,hW⟩:∃W,kw x L la=W:=⟨_,rfl⟩
    rw[hW]at hkw hst ekw
    have pW:=pW W hkw.1
    have lW:=hkw.1
    have q:preU8 [.v (.int .u8 x)]:=⟨_,rfl⟩
    have r12:176+(getI la 12).toNat<432:=by omega
    have r13:176+(getI la 13).toNat<432:=by omega
    have r14:176+(getI la 14).toNat<432:=by omega
    have r15:176+(getI la 15).toNat<432:=by omega
    simp only[c1,wd,hLl,hla,lal,pla,mlt,m16,b12,b13,b14,b15,r12,r13,r14,r15,ekw,pW,lW,q,s76,F76,sub_zero,qdb,qai,List.length_cons,List.length_nil,Nat.reduceAdd,Nat.le_refl,Nat.reduceLeDiff,Nat.reduceLT,true_and,and_true,↓evA,evB,evs,evp,mkB,repB,blen,↓retQ,res,resAll,resOne,kill,apartOk,exp,injV,injB,pur,purs,purR,pursR,List.reduceReplicate,Nat.reduceMul,Nat.reduceSub,Nat.reduceEqDiff,Int.reduceToNat,Int.reduceLE,Int.reduceLT,Int.reduceEq,reduceCtorEq,↓reduceIte]
    repeat(refine And.intro (by omega) ?_)
    refine awp_loopA (n:=95) hA [3,5,6,7,8,70] (by decide +kernel) (fun j:Nat=>[.ptr 5 0,.int .u8 (twi x),.int .i64 ((m+1:Nat):Int),.ptr 6 0,.ptr 7 0,.int .i64 j])
      (fun j=>[.ints true .u64 roots,.dead,.dead,.dead,.ints false .u8 k,.ints false .u8 (itr (innst la (m+1)) (W,L) j).2,.ints false .u8 la,.ints false .u8 (itr (innst la (m+1)) (W,L) j).1]) (fun j=>j≤16) (fun j=>16-j) 0 ?_ (by omega) ?_
    · refine Hd.same ?_
      simp only[itr,↓evA,evB,evs,evp,mkB,repB,blen,↓retQ,res,resAll,resOne,kill,apartOk,exp,injV,injB,pur,purs,purR,pursR,List.reduceReplicate,Nat.reduceAdd,Nat.reduceMul,Nat.reduceSub,Nat.reduceEqDiff,Nat.reduceLT,Int.reduceToNat,Int.reduceLE,Int.reduceLT,Int.reduceEq,reduceCtorEq,↓reduceIte]
    intro j hj K2 hK2
    have hin:=innst_ok (last:=la) (i:=m+1) hkw.1 hkw.2 hok j
    by_cases hlj:j<16
    · have d1:(j:Int)<16:=by omega
      have wj:Go.IntKind.i64.wrap ((j:Int)+1)=((j+1:Nat):Int):=by rw[wrap_i64];omega
      have hsj:itr (innst la (m+1)) (W,L) (j+1)=innst la (m+1) (itr (innst la (m+1)) (W,L) j) j:=rfl
      obtain⟨⟨w,l⟩,hwl⟩:∃s,itr (innst la (m+1)) (W,L) j=s:=⟨_,rfl⟩
      rw[hwl]at hin hsj
      rw[hwl]
      simp only[innst]at hsj
      obtain⟨hwl4,hwd,hll,hld⟩:=hin
      simp only at hwl4 hwd hll hld
      have h4:j%4<4:=Nat.mod_lt _ (by decide)
      have n4:¬(4:Int)=0:=by decide
      obtain⟨v,hv⟩:∃v,bXor .u8 (getI w (j%4)) (getI la j)=v:=⟨_,rfl⟩
      rw[hv]at hsj
      have gv:getI (w.set (j%4) v) (j%4)=v:=by rw[getI_set _ _ _ _ (by omega),if_pos rfl]
      have mlt2:m+1<11:=by omega
      have hb2:(m+1)*16+j<432:=by omega
      simp only[d1,wj,hwl4,hll,lal,hlj,h4,n4,tmod4,hv,gv,mlt2,hb2,List.length_set,sub_zero,qdb,qai,List.length_cons,List.length_nil,Nat.reduceAdd,Nat.le_refl,Nat.reduceLeDiff,Nat.reduceLT,true_and,and_true,↓evA,evB,evs,evp,mkB,repB,blen,↓retQ,res,resAll,resOne,kill,apartOk,exp,injV,injB,pur,purs,purR,pursR,List.reduceReplicate,Nat.reduceMul,Nat.reduceSub,Nat.reduceEqDiff,Int.reduceToNat,Int.reduceLE,Int.reduceLT,Int.reduceEq,reduceCtorEq,↓reduceIte]
      repeat(refine And.intro (by omega) ?_)
      refine⟨j+1,hK2 _ (by omega) (by omega),Hd.same ?_⟩
      simp only[hsj,↓evA,evB,evs,evp,mkB,repB,blen,↓retQ,res,resAll,resOne,kill,apartOk,exp,injV,injB,pur,purs,purR,pursR,List.reduceReplicate,Nat.reduceAdd,Nat.reduceMul,Nat.reduceSub,Nat.reduceEqDiff,Nat.reduceLT,Int.reduceToNat,Int.reduceLE,Int.reduceLT,Int.reduceEq,reduceCtorEq,↓reduceIte]
    obtain rfl:j=16:=by omega
    have d1:¬((16:Nat):Int)<16:=by omega
    simp only[d1,wi,sub_zero,qdb,qai,List.length_cons,List.length_nil,Nat.reduceAdd,Nat.le_refl,Nat.reduceLeDiff,Nat.reduceLT,true_and,and_true,↓evA,evB,evs,evp,mkB,repB,blen,↓retQ,res,resAll,resOne,kill,apartOk,exp,injV,injB,pur,purs,purR,pursR,List.reduceReplicate,Nat.reduceMul,Nat.reduceSub,Nat.reduceEqDiff,Int.reduceToNat,Int.reduceLE,Int.reduceLT,Int.reduceEq,reduceCtorEq,↓reduceIte]
    refine⟨m+1,hK _ (by omega) (by omega),Hd.of [0,1,2,3,4,5] (by decide) (by decide) (by simp) ?_⟩
    simp only[hst,gc,gcVs,gcV,posOf,gcH,gcB,Option.map_some,Option.map_none,List.replicate_zero,List.drop_zero,↓evA,evB,evs,evp,mkB,repB,blen,↓retQ,res,resAll,resOne,kill,apartOk,exp,injV,injB,pur,purs,purR,pursR,List.reduceReplicate,Nat.reduceAdd,Nat.reduceMul,Nat.reduceSub,Nat.reduceEqDiff,Nat.reduceLT,Int.reduceToNat,Int.reduceLE,Int.reduceLT,Int.reduceEq,reduceCtorEq,↓reduceIte]
  obtain rfl:m=10:=by omega
  have c1:¬((10+1:Nat):Int)<11:=by omega
  have hRR:(itr kst (1,bxs k 256) 10).2=R:=hR
  simp only[c1,hRR,sub_zero,qdb,qai,List.length_cons,List.length_nil,Nat.reduceAdd,Nat.le_refl,Nat.reduceLeDiff,Nat.reduceLT,true_and,and_true,↓evA,evB,evs,evp,mkB,repB,blen,↓retQ,res,resAll,resOne,kill,apartOk,exp,injV,injB,pur,purs,purR,pursR,List.reduceReplicate,Nat.reduceMul,Nat.reduceSub,Nat.reduceEqDiff,Int.reduceToNat,Int.reduceLE,Int.reduceLT,Int.reduceEq,reduceCtorEq,↓reduceIte]
  exact outEs_ints trivial
end Am
set_option maxRecDepth 20000
namespace Am
open Go.Proofs
/-! ### A block, by a key that was made ready -/
def z16:List Int:=List.replicate 16 0
def sbst (L b:List Int) (s:List Int) (i:Nat):List Int:=s.set i (getI L (176+(getI b ((i+i%4*4)%16)).toNat))
def all4 (s:List Int) (i:Nat):Int:=bXor .u8 (bXor .u8 (bXor .u8 (getI s i) (getI s (i+1))) (getI s (i+2))) (getI s (i+3))
def mxk (al f:Int) (i:Nat) (s:List Int) (k:Nat):List Int:=s.set (i+k) (bXor .u8 (getI s (i+k)) (bXor .u8 al (twi (bXor .u8 (getI s (i+k)) (if k<3 then getI s (i+k+1)else f)))))
def mx4 (s:List Int) (c:Nat):List Int:=itr (mxk (all4 s (4*c)) (getI s (4*c)) (4*c)) s 4
def shb (L b:List Int):List Int:=itr (sbst L b) z16 16
def rnd (L b:List Int) (m:Nat):List Int:=jn (if m<9 then itr mx4 (shb L b) 4 else shb L b) (sub L ((m+1)*16) 16) 16
def encF (L b:List Int):List Int:=itr (rnd L) (jn b (sub L 0 16) 16) 10
def B16 (b:List Int):Prop:=b.length=16∧Dig 256 b
theorem jn_dig {a b:List Int} (h:Dig 256 a):∀n,Dig 256 (jn a b n)
  | 0=>h
  | n+1=>by rw[jn];exact(jn_dig h n).set _ (x8_bd _ _).1 (x8_bd _ _).2
theorem sbst_ok {L b:List Int} (hL:L432 L) (n:Nat):B16 (itr (sbst L b) z16 n) :=
  itr_inv (fun _ (s:List Int)=>B16 s) ⟨rfl,fun x hx=>by rw[(List.mem_replicate.1 hx).2];decide⟩ (fun n s hs=>by
    have hg:=hL.2.all (by decide) (176+(getI b ((n+n%4*4)%16)).toNat)
    exact⟨by simp[sbst,hs.1],hs.2.set _ hg.1 hg.2⟩) n
theorem mxk_ok {al f:Int} {i:Nat} {s:List Int} (h:B16 s) (n:Nat):B16 (itr (mxk al f i) s n) :=
  itr_inv (fun _ (s:List Int)=>B16 s) h (fun n s hs=>⟨by simp[mxk,hs.1],hs.2.set _ (x8_bd _ _).1 (x8_bd _ _).2⟩) n
theorem mx4_ok {s:List Int} (h:B16 s) (n:Nat):B16 (itr mx4 s n) :=
  itr_inv (fun _ (s:List Int)=>B16 s) h (fun n s hs=>mxk_ok hs 4) n
theorem jn_ok {a b:List Int} (h:B16 a):B16 (jn a b 16):=⟨by rw[jn_len,h.1],jn_dig h.2 16⟩
theorem rnd_ok {L b:List Int} (hL:L432 L) (m:Nat):B16 (rnd L b m):=by
  unfold rnd
  refine jn_ok ?_
  split
  · exact mx4_ok (sbst_ok hL 16) 4
  · exact sbst_ok hL 16
theorem rnds_ok {L b:List Int} (hL:L432 L) (hb:B16 b) (n:Nat):B16 (itr (rnd L) (jn b (sub L 0 16) 16) n) :=
  itr_inv (fun _ (s:List Int)=>B16 s) (jn_ok hb) (fun n s hs=>rnd_ok hL n) n
theorem nth_ints {k:Go.IntKind}:∀{xs:List Int} {j:Nat},j<xs.length→nth (xs.map (V.int k)) j=.int k (getI xs j)
  | [],j,h=>by simp at h
  | x::xs,0,h=>by rw[List.map_cons,qc1];rfl
  | x::xs,j+1,h=>by
    rw[List.map_cons,qc2,nth_ints (by simpa using h)];simp[getI]
theorem agI_sub {xs:List Int} {o n:Nat} (hn:0<n) (h:o+n≤xs.length):agI (sub (xs.map (V.int .u8)) o n)=.ints .u8 (sub xs o n):=by
  have e:sub (xs.map (V.int .u8)) o n=(sub xs o n).map (V.int .u8):=by simp[sub,List.map_take,List.map_drop]
  rw[e]
  refine agI_ints (fun h0=>?_)
  have:=congrArg List.length h0
  simp[sub]at this
  omega
def preEnc (ds:List D):Prop:=∃L b:List Int,ds=[.v (.rpc (L.map (V.int .u8)) 0),.v (.ints .u8 b)]∧L432 L∧B16 b
def unI:List V→List Int:=fun cs=>cs.map fun | .int _ n=>n | _=>0
theorem unI_ints (xs:List Int):unI (xs.map (V.int .u8))=xs:=by simp[unI,Function.comp_def]
def F79:List D→Out
  | [.v (.rpc cs _),.v (.ints _ b)]=>.one (.v (.ints .u8 (encF (unI cs) b)))
  | _=>bad
def s79:Summ:=sData [.r,.v] preEnc F79
set_option maxHeartbeats 4000000 in
theorem ok79 {g:List Blk} [Ge gl g]:SumOK Tryd.prog g 79 s79∧SumAbs s79:=by
  refine fsumA (l:=[(86,s86),(76,s76)]) mixed gl_plain rfl Tryd.func79 comp79 compR79 nt79 (by simp only[List.mem_cons,List.not_mem_nil,or_false,forall_eq_or_imp,forall_eq];exact⟨ok86,ok76⟩) fun ds ⟨L,b,hd,hL,hb⟩ hA=>?_
  subst hd
  have hLl:=hL.1
  have hF:F79 [.v (.rpc (L.map (V.int .u8)) 0),.v (.ints .u8 b)]=.one (.v (.ints .u8 (encF L b))):=by
    show Out.one (.v (.ints .u8 (encF (unI (L.map (V.int .u8))) b)))=_
    rw[unI_ints]
  have hn:∀j,j<432→nth (L.map (V.int .u8)) j=.int .u8 (getI L j):=fun j hj=>nth_ints (by omega)
  have hs:∀o,o+16≤432→agI (sub (L.map (V.int .u8)) o 16)=.ints .u8 (sub L o 16):=fun o ho=>agI_sub (by decide) (by omega)
  have lc:(L.map (V.int .u8)).length=432:=by simp[hLl]
  obtain⟨cs,hcs⟩:∃cs,L.map (V.int .u8)=cs:=⟨_,rfl⟩
  rw[hcs]at hF lc
  simp only[hcs]at hn hs
  have hbl:=hb.1
  have sb:sub b 0 16=b:=sub_zero hbl
  obtain⟨R,hR⟩:∃R,encF L b=R:=⟨_,rfl⟩
  rw[hR]at hF
  have sl:∀o,o+16≤432→(sub L o 16).length=16:=fun o ho=>by simp[sub,hLl];omega
  have s0:=hs 0 (by decide)
  have q0:preJ [.v (.ints .u8 b),.v (.ints .u8 (sub L 0 16))]:=⟨_,_,rfl,hbl,sl 0 (by decide)⟩
  have hj0:=jn_ok (b:=sub L 0 16) hb
  obtain⟨b0,hb0⟩:∃b0,jn b (sub L 0 16) 16=b0:=⟨_,rfl⟩
  rw[hb0]at hj0
  have l0:=hj0.1
  have p0:spl b 0 b0=b0:=qdb (by omega)
  have hRR:itr (rnd L) b0 10=R:=by rw[←hR,←hb0];rfl
  have hbk:∀n,B16 (itr (rnd L) b0 n):=fun n=>by rw[←hb0];exact rnds_ok hL hb n
  simp only[hcs,s86,s76]
  simp only[ir79,rs79,gl,hF,hbl,sb,lc,s0,q0,hb0,l0,p0,s86,F86,sub_zero,qdb,qai,List.length_cons,List.length_nil,Nat.reduceAdd,Nat.le_refl,Nat.reduceLeDiff,Nat.reduceLT,true_and,and_true,↓evA,evB,evs,evp,mkB,repB,blen,↓retQ,res,resAll,resOne,kill,apartOk,exp,injV,injB,pur,purs,purR,pursR,List.reduceReplicate,Nat.reduceMul,Nat.reduceSub,Nat.reduceEqDiff,Int.reduceToNat,Int.reduceLE,Int.reduceLT,Int.reduceEq,reduceCtorEq,↓reduceIte]
  repeat(refine And.intro (by omega) ?_)
  refine awp_loopA (n:=112) hA [0,3,4,5] (by decide +kernel) (fun m:Nat=>[.rpc cs 0,.ptr 4 0,.ptr 5 0,.int .i64 ((m+1:Nat):Int)])
    (fun m=>[.ints true .u64 roots,.dead,.dead,.dead,.ints false .u8 (itr (rnd L) b0 m),.ints false .u8 [0,0,0,0,0,0,0,0,0,0,0,0,0,0,0,0]]) (fun m=>m≤10) (fun m=>10-m) 0 ?_ (by omega) ?_
  · refine Hd.same ?_
    simp only[itr,show ((0+1:Nat):Int)=1 from rfl,↓evA,evB,evs,evp,mkB,repB,blen,↓retQ,res,resAll,resOne,kill,apartOk,exp,injV,injB,pur,purs,purR,pursR,List.reduceReplicate,Nat.reduceAdd,Nat.reduceMul,Nat.reduceSub,Nat.reduceEqDiff,Nat.reduceLT,Int.reduceToNat,Int.reduceLE,Int.reduceLT,Int.reduceEq,reduceCtorEq,↓reduceIte]
  intro m hm K hK
  have hB:=hbk m
  simp only[s86,s76]
  by_cases hlt:m<10
  · have c1:((m+1:Nat):Int)<11:=by omega
    have wi:Go.IntKind.i64.wrap (((m+1:Nat):Int)+1)=((m+1+1:Nat):Int):=by rw[wrap_i64];omega
    have hst:itr (rnd L) b0 (m+1)=rnd L (itr (rnd L) b0 m) m:=rfl
    obtain⟨B,hBB⟩:∃B,itr (rnd L) b0 m=B:=⟨_,rfl⟩
    rw[hBB]at hst hB
    rw[hBB]
    have hBl:=hB.1
    simp only[c1,sub_zero,qdb,qai,List.length_cons,List.length_nil,Nat.reduceAdd,Nat.le_refl,Nat.reduceLeDiff,Nat.reduceLT,true_and,and_true,↓evA,evB,evs,evp,mkB,repB,blen,↓retQ,res,resAll,resOne,kill,apartOk,exp,injV,injB,pur,purs,purR,pursR,List.reduceReplicate,Nat.reduceMul,Nat.reduceSub,Nat.reduceEqDiff,Int.reduceToNat,Int.reduceLE,Int.reduceLT,Int.reduceEq,reduceCtorEq,↓reduceIte]
    refine awp_loopA (n:=112) hA [0,3,4,5,6,27] (by decide +kernel) (fun i:Nat=>[.rpc cs 0,.ptr 4 0,.ptr 5 0,.int .i64 ((m+1:Nat):Int),.ptr 6 0,.int .i64 i])
      (fun i=>[.ints true .u64 roots,.dead,.dead,.dead,.ints false .u8 B,.ints false .u8 [0,0,0,0,0,0,0,0,0,0,0,0,0,0,0,0],.ints false .u8 (itr (sbst L B) z16 i)]) (fun i=>i≤16) (fun i=>16-i) 0 ?_ (by omega) ?_
    · refine Hd.same ?_
      simp only[itr,z16,↓evA,evB,evs,evp,mkB,repB,blen,↓retQ,res,resAll,resOne,kill,apartOk,exp,injV,injB,pur,purs,purR,pursR,List.reduceReplicate,Nat.reduceAdd,Nat.reduceMul,Nat.reduceSub,Nat.reduceEqDiff,Nat.reduceLT,Int.reduceToNat,Int.reduceLE,Int.reduceLT,Int.reduceEq,reduceCtorEq,↓reduceIte]
    intro i hi K2 hK2
    have hsi:=sbst_ok (b:=B) hL i
    by_cases hlt2:i<16
    · have d1:(i:Int)<16:=by omega
      have wj:Go.IntKind.i64.wrap ((i:Int)+1)=((i+1:Nat):Int):=by rw[wrap_i64];omega
      have w4:Go.IntKind.i64.wrap (((i%4:Nat):Int)*4)=((i%4*4:Nat):Int):=by rw[wrap_i64];omega
      have w5:Go.IntKind.i64.wrap ((i:Int)+((i%4*4:Nat):Int))=((i+i%4*4:Nat):Int):=by rw[wrap_i64];omega
      have n4:¬(4:Int)=0:=by decide
      have n16:¬(16:Int)=0:=by decide
      have hx:itr (sbst L B) z16 (i+1)=sbst L B (itr (sbst L B) z16 i) i:=rfl
      obtain⟨s,hs'⟩:∃s,itr (sbst L B) z16 i=s:=⟨_,rfl⟩
      rw[hs']at hx hsi
      rw[hs']
      have hsl:=hsi.1
      have h16:(i+i%4*4)%16<16:=Nat.mod_lt _ (by decide)
      have hg:=hB.2.all (by decide) ((i+i%4*4)%16)
      have t1:(getI B ((i+i%4*4)%16)).toNat<256:=by omega
      have t2:176+(getI B ((i+i%4*4)%16)).toNat<432:=by omega
      have t3:=hn _ t2
      simp only[d1,wj,w4,w5,n4,n16,tmod4,tmod16,hlt2,h16,hsl,hBl,hg.1,hg.2,t1,t2,t3,lc,sub_zero,qdb,qai,List.length_cons,List.length_nil,Nat.reduceAdd,Nat.le_refl,Nat.reduceLeDiff,Nat.reduceLT,true_and,and_true,↓evA,evB,evs,evp,mkB,repB,blen,↓retQ,res,resAll,resOne,kill,apartOk,exp,injV,injB,pur,purs,purR,pursR,List.reduceReplicate,Nat.reduceMul,Nat.reduceSub,Nat.reduceEqDiff,Int.reduceToNat,Int.reduceLE,Int.reduceLT,Int.reduceEq,reduceCtorEq,↓reduceIte]
      repeat(refine And.intro (by omega) ?_)
      refine⟨i+1,hK2 _ (by omega) (by omega),Hd.same ?_⟩
      simp only[hx,sbst,↓evA,evB,evs,evp,mkB,repB,blen,↓retQ,res,resAll,resOne,kill,apartOk,exp,injV,injB,pur,purs,purR,pursR,List.reduceReplicate,Nat.reduceAdd,Nat.reduceMul,Nat.reduceSub,Nat.reduceEqDiff,Nat.reduceLT,Int.reduceToNat,Int.reduceLE,Int.reduceLT,Int.reduceEq,reduceCtorEq,↓reduceIte]
    obtain rfl:i=16:=by omega
    have d1:¬((16:Nat):Int)<16:=by omega
    have hsh:itr (sbst L B) z16 16=shb L B:=rfl
    obtain⟨s,hs'⟩:∃s,shb L B=s:=⟨_,rfl⟩
    rw[hsh,hs']at hsi
    rw[hsh,hs']
    have hsl:=hsi.1
    have m16:(m+1)*16+16≤432:=by omega
    have mlt:m+1<11:=by omega
    have so:=hs _ m16
    have soL:=sl _ m16
    by_cases h9:m<9
    · have c2:((m+1:Nat):Int)<10:=by omega
      simp only[d1,c2,sub_zero,qdb,qai,List.length_cons,List.length_nil,Nat.reduceAdd,Nat.le_refl,Nat.reduceLeDiff,Nat.reduceLT,true_and,and_true,↓evA,evB,evs,evp,mkB,repB,blen,↓retQ,res,resAll,resOne,kill,apartOk,exp,injV,injB,pur,purs,purR,pursR,List.reduceReplicate,Nat.reduceMul,Nat.reduceSub,Nat.reduceEqDiff,Int.reduceToNat,Int.reduceLE,Int.reduceLT,Int.reduceEq,reduceCtorEq,↓reduceIte]
      refine awp_loopA (n:=112) hA [0,3,4,5,6,8] (by decide +kernel) (fun c:Nat=>[.rpc cs 0,.ptr 4 0,.ptr 5 0,.int .i64 ((m+1:Nat):Int),.ptr 6 0,.int .i64 ((4*c:Nat):Int)])
        (fun c=>[.ints true .u64 roots,.dead,.dead,.dead,.ints false .u8 B,.ints false .u8 [0,0,0,0,0,0,0,0,0,0,0,0,0,0,0,0],.ints false .u8 (itr mx4 s c)]) (fun c=>c≤4) (fun c=>4-c) 0 ?_ (by omega) ?_
      · refine Hd.same ?_
        simp only[itr,show ((4*0:Nat):Int)=0 from rfl,↓evA,evB,evs,evp,mkB,repB,blen,↓retQ,res,resAll,resOne,kill,apartOk,exp,injV,injB,pur,purs,purR,pursR,List.reduceReplicate,Nat.reduceAdd,Nat.reduceMul,Nat.reduceSub,Nat.reduceEqDiff,Nat.reduceLT,Int.reduceToNat,Int.reduceLE,Int.reduceLT,Int.reduceEq,reduceCtorEq,↓reduceIte]
      intro c hc K3 hK3
      have hci:=mx4_ok hsi c
      simp only[s86,s76]
      by_cases hlc:c<4
      · have e1:((4*c:Nat):Int)<16:=by omega
        have we:∀j:Nat,j≤4→Go.IntKind.i64.wrap (((4*c:Nat):Int)+(j:Int))=((4*c+j:Nat):Int):=fun j hj=>by rw[wrap_i64];omega
        have we1:Go.IntKind.i64.wrap (((4*c:Nat):Int)+1)=((4*c+1:Nat):Int):=we 1 (by decide)
        have we2:Go.IntKind.i64.wrap (((4*c:Nat):Int)+2)=((4*c+2:Nat):Int):=we 2 (by decide)
        have we3:Go.IntKind.i64.wrap (((4*c:Nat):Int)+3)=((4*c+3:Nat):Int):=we 3 (by decide)
        have we4:Go.IntKind.i64.wrap (((4*c:Nat):Int)+4)=((4*(c+1):Nat):Int):=we 4 (by decide)
        have hcx:itr mx4 s (c+1)=mx4 (itr mx4 s c) c:=rfl
        obtain⟨u,hu⟩:∃u,itr mx4 s c=u:=⟨_,rfl⟩
        rw[hu]at hcx hci
        rw[hu]
        have hul:=hci.1
        obtain⟨al,hal⟩:∃al,all4 u (4*c)=al:=⟨_,rfl⟩
        obtain⟨f,hf⟩:∃f,getI u (4*c)=f:=⟨_,rfl⟩
        rw[mx4,hal,hf]at hcx
        have hal':bXor .u8 (bXor .u8 (bXor .u8 f (getI u (4*c+1))) (getI u (4*c+2))) (getI u (4*c+3))=al:=by rw[←hal,←hf];rfl
        have b0':4*c<16:=by omega
        have b1:4*c+1<16:=by omega
        have b2:4*c+2<16:=by omega
        have b3:4*c+3<16:=by omega
        simp only[e1,we1,we2,we3,hul,b0',b1,b2,b3,hf,hal',sub_zero,qdb,qai,List.length_cons,List.length_nil,Nat.reduceAdd,Nat.le_refl,Nat.reduceLeDiff,Nat.reduceLT,true_and,and_true,↓evA,evB,evs,evp,mkB,repB,blen,↓retQ,res,resAll,resOne,kill,apartOk,exp,injV,injB,pur,purs,purR,pursR,List.reduceReplicate,Nat.reduceMul,Nat.reduceSub,Nat.reduceEqDiff,Int.reduceToNat,Int.reduceLE,Int.reduceLT,Int.reduceEq,reduceCtorEq,↓reduceIte]
        repeat(refine And.intro (by omega) ?_)
        refine awp_loopA (n:=112) hA [0,3,4,5,6,8,9,10,73] (by decide +kernel) (fun k:Nat=>[.rpc cs 0,.ptr 4 0,.ptr 5 0,.int .i64 ((m+1:Nat):Int),.ptr 6 0,.int .i64 ((4*c:Nat):Int),.int .u8 al,.int .u8 f,.int .i64 k])
          (fun k=>[.ints true .u64 roots,.dead,.dead,.dead,.ints false .u8 B,.ints false .u8 [0,0,0,0,0,0,0,0,0,0,0,0,0,0,0,0],.ints false .u8 (itr (mxk al f (4*c)) u k)]) (fun k=>k≤4) (fun k=>4-k) 0 ?_ (by omega) ?_
        · refine Hd.same ?_
          simp only[itr,↓evA,evB,evs,evp,mkB,repB,blen,↓retQ,res,resAll,resOne,kill,apartOk,exp,injV,injB,pur,purs,purR,pursR,List.reduceReplicate,Nat.reduceAdd,Nat.reduceMul,Nat.reduceSub,Nat.reduceEqDiff,Nat.reduceLT,Int.reduceToNat,Int.reduceLE,Int.reduceLT,Int.reduceEq,reduceCtorEq,↓reduceIte]
        intro k hk K4 hK4
        have hki:=mxk_ok (al:=al) (f:=f) (i:=4*c) hci k
        simp only[s86,s76]
        by_cases hlk:k<4
        · have g1:(k:Int)<4:=by omega
          have wk:Go.IntKind.i64.wrap ((k:Int)+1)=((k+1:Nat):Int):=by rw[wrap_i64];omega
          have wck:=we k hk
          have wck1:Go.IntKind.i64.wrap (((4*c+k:Nat):Int)+1)=((4*c+k+1:Nat):Int):=by rw[wrap_i64];omega
          have hkx:itr (mxk al f (4*c)) u (k+1)=mxk al f (4*c) (itr (mxk al f (4*c)) u k) k:=rfl
          obtain⟨w,hw⟩:∃w,itr (mxk al f (4*c)) u k=w:=⟨_,rfl⟩
          rw[hw]at hkx hki
          rw[hw]
          have hwl:=hki.1
          have bk:4*c+k<16:=by omega
          have qt:∀x,preU8 [.v (.int .u8 x)]:=fun x=>⟨x,rfl⟩
          by_cases h3:k<3
          · have g3:(k:Int)<3:=by omega
            have bk1:4*c+k+1<16:=by omega
            rw[mxk,if_pos h3]at hkx
            simp only[g1,g3,wk,wck,wck1,hwl,bk,bk1,qt,s76,F76,sub_zero,qdb,qai,List.length_cons,List.length_nil,Nat.reduceAdd,Nat.le_refl,Nat.reduceLeDiff,Nat.reduceLT,true_and,and_true,↓evA,evB,evs,evp,mkB,repB,blen,↓retQ,res,resAll,resOne,kill,apartOk,exp,injV,injB,pur,purs,purR,pursR,List.reduceReplicate,Nat.reduceMul,Nat.reduceSub,Nat.reduceEqDiff,Int.reduceToNat,Int.reduceLE,Int.reduceLT,Int.reduceEq,reduceCtorEq,↓reduceIte]
            repeat(refine And.intro (by omega) ?_)
            refine⟨k+1,hK4 _ (by omega) (by omega),Hd.same ?_⟩
            simp only[hkx,↓evA,evB,evs,evp,mkB,repB,blen,↓retQ,res,resAll,resOne,kill,apartOk,exp,injV,injB,pur,purs,purR,pursR,List.reduceReplicate,Nat.reduceAdd,Nat.reduceMul,Nat.reduceSub,Nat.reduceEqDiff,Nat.reduceLT,Int.reduceToNat,Int.reduceLE,Int.reduceLT,Int.reduceEq,reduceCtorEq,↓reduceIte]
          · have g3:¬(k:Int)<3:=by omega
            rw[mxk,if_neg h3]at hkx
            simp only[g1,g3,wk,wck,hwl,bk,qt,s76,F76,sub_zero,qdb,qai,List.length_cons,List.length_nil,Nat.reduceAdd,Nat.le_refl,Nat.reduceLeDiff,Nat.reduceLT,true_and,and_true,↓evA,evB,evs,evp,mkB,repB,blen,↓retQ,res,resAll,resOne,kill,apartOk,exp,injV,injB,pur,purs,purR,pursR,List.reduceReplicate,Nat.reduceMul,Nat.reduceSub,Nat.reduceEqDiff,Int.reduceToNat,Int.reduceLE,Int.reduceLT,Int.reduceEq,reduceCtorEq,↓reduceIte]
            repeat(refine And.intro (by omega) ?_)
            refine⟨k+1,hK4 _ (by omega) (by omega),Hd.same ?_⟩
            simp only[hkx,↓evA,evB,evs,evp,mkB,repB,blen,↓retQ,res,resAll,resOne,kill,apartOk,exp,injV,injB,pur,purs,purR,pursR,List.reduceReplicate,Nat.reduceAdd,Nat.reduceMul,Nat.reduceSub,Nat.reduceEqDiff,Nat.reduceLT,Int.reduceToNat,Int.reduceLE,Int.reduceLT,Int.reduceEq,reduceCtorEq,↓reduceIte]
        obtain rfl:k=4:=by omega
        have g1:¬((4:Nat):Int)<4:=by omega
        simp only[g1,we4,sub_zero,qdb,qai,List.length_cons,List.length_nil,Nat.reduceAdd,Nat.le_refl,Nat.reduceLeDiff,Nat.reduceLT,true_and,and_true,↓evA,evB,evs,evp,mkB,repB,blen,↓retQ,res,resAll,resOne,kill,apartOk,exp,injV,injB,pur,purs,purR,pursR,List.reduceReplicate,Nat.reduceMul,Nat.reduceSub,Nat.reduceEqDiff,Int.reduceToNat,Int.reduceLE,Int.reduceLT,Int.reduceEq,reduceCtorEq,↓reduceIte]
        refine⟨c+1,hK3 _ (by omega) (by omega),Hd.same ?_⟩
        simp only[hcx,↓evA,evB,evs,evp,mkB,repB,blen,↓retQ,res,resAll,resOne,kill,apartOk,exp,injV,injB,pur,purs,purR,pursR,List.reduceReplicate,Nat.reduceAdd,Nat.reduceMul,Nat.reduceSub,Nat.reduceEqDiff,Nat.reduceLT,Int.reduceToNat,Int.reduceLE,Int.reduceLT,Int.reduceEq,reduceCtorEq,↓reduceIte]
      obtain rfl:c=4:=by omega
      have e1:¬((4*4:Nat):Int)<16:=by decide
      obtain⟨u,hu⟩:∃u,itr mx4 s 4=u:=⟨_,rfl⟩
      rw[hu]at hci
      rw[hu]
      have hul:=hci.1
      have su:sub u 0 16=u:=sub_zero hul
      have qj:preJ [.v (.ints .u8 u),.v (.ints .u8 (sub L ((m+1)*16) 16))]:=⟨_,_,rfl,hul,soL⟩
      have hre:rnd L B m=jn u (sub L ((m+1)*16) 16) 16:=by rw[rnd,if_pos h9,hs',hu]
      have hjl:(jn u (sub L ((m+1)*16) 16) 16).length=16:=by rw[jn_len,hul]
      have pj:spl B 0 (jn u (sub L ((m+1)*16) 16) 16)=jn u (sub L ((m+1)*16) 16) 16:=qdb (by omega)
      simp only[e1,wi,hul,su,lc,mlt,m16,so,qj,hjl,hBl,pj,s86,F86,sub_zero,qdb,qai,List.length_cons,List.length_nil,Nat.reduceAdd,Nat.le_refl,Nat.reduceLeDiff,Nat.reduceLT,true_and,and_true,↓evA,evB,evs,evp,mkB,repB,blen,↓retQ,res,resAll,resOne,kill,apartOk,exp,injV,injB,pur,purs,purR,pursR,List.reduceReplicate,Nat.reduceMul,Nat.reduceSub,Nat.reduceEqDiff,Int.reduceToNat,Int.reduceLE,Int.reduceLT,Int.reduceEq,reduceCtorEq,↓reduceIte]
      repeat(refine And.intro (by omega) ?_)
      refine⟨m+1,hK _ (by omega) (by omega),Hd.of [0,1,2,3,4,5] (by decide) (by decide) (by simp) ?_⟩
      simp only[hst,hre,gc,gcVs,gcV,posOf,gcH,gcB,Option.map_some,Option.map_none,List.replicate_zero,List.drop_zero,↓evA,evB,evs,evp,mkB,repB,blen,↓retQ,res,resAll,resOne,kill,apartOk,exp,injV,injB,pur,purs,purR,pursR,List.reduceReplicate,Nat.reduceAdd,Nat.reduceMul,Nat.reduceSub,Nat.reduceEqDiff,Nat.reduceLT,Int.reduceToNat,Int.reduceLE,Int.reduceLT,Int.reduceEq,reduceCtorEq,↓reduceIte]
    · have c2:¬((m+1:Nat):Int)<10:=by omega
      have ss:sub s 0 16=s:=sub_zero hsl
      have qj:preJ [.v (.ints .u8 s),.v (.ints .u8 (sub L ((m+1)*16) 16))]:=⟨_,_,rfl,hsl,soL⟩
      have hre:rnd L B m=jn s (sub L ((m+1)*16) 16) 16:=by rw[rnd,if_neg h9,hs']
      have hjl:(jn s (sub L ((m+1)*16) 16) 16).length=16:=by rw[jn_len,hsl]
      have pj:spl B 0 (jn s (sub L ((m+1)*16) 16) 16)=jn s (sub L ((m+1)*16) 16) 16:=qdb (by omega)
      simp only[d1,c2,wi,hsl,ss,lc,mlt,m16,so,qj,hjl,hBl,pj,s86,F86,sub_zero,qdb,qai,List.length_cons,List.length_nil,Nat.reduceAdd,Nat.le_refl,Nat.reduceLeDiff,Nat.reduceLT,true_and,and_true,↓evA,evB,evs,evp,mkB,repB,blen,↓retQ,res,resAll,resOne,kill,apartOk,exp,injV,injB,pur,purs,purR,pursR,List.reduceReplicate,Nat.reduceMul,Nat.reduceSub,Nat.reduceEqDiff,Int.reduceToNat,Int.reduceLE,Int.reduceLT,Int.reduceEq,reduceCtorEq,↓reduceIte]
      repeat(refine And.intro (by omega) ?_)
      refine⟨m+1,hK _ (by omega) (by omega),Hd.of [0,1,2,3,4,5] (by decide) (by decide) (by simp) ?_⟩
      simp only[hst,hre,gc,gcVs,gcV,posOf,gcH,gcB,Option.map_some,Option.map_none,List.replicate_zero,List.drop_zero,↓evA,evB,evs,evp,mkB,repB,blen,↓retQ,res,resAll,resOne,kill,apartOk,exp,injV,injB,pur,purs,purR,pursR,List.reduceReplicate,Nat.reduceAdd,Nat.reduceMul,Nat.reduceSub,Nat.reduceEqDiff,Nat.reduceLT,Int.reduceToNat,Int.reduceLE,Int.reduceLT,Int.reduceEq,reduceCtorEq,↓reduceIte]
  obtain rfl:m=10:=by omega
  have c1:¬((10+1:Nat):Int)<11:=by omega
  have hRl:R.length=16:=by rw[←hRR];exact hB.1
  have sR:sub R 0 16=R:=sub_zero hRl
  have pR:spl [0,0,0,0,0,0,0,0,0,0,0,0,0,0,0,0] 0 R=R:=qdb (by simp[hRl])
  simp only[c1,hRR,hRl,sR,pR,sub_zero,qdb,qai,List.length_cons,List.length_nil,Nat.reduceAdd,Nat.le_refl,Nat.reduceLeDiff,Nat.reduceLT,true_and,and_true,↓evA,evB,evs,evp,mkB,repB,blen,↓retQ,res,resAll,resOne,kill,apartOk,exp,injV,injB,pur,purs,purR,pursR,List.reduceReplicate,Nat.reduceMul,Nat.reduceSub,Nat.reduceEqDiff,Int.reduceToNat,Int.reduceLE,Int.reduceLT,Int.reduceEq,reduceCtorEq,↓reduceIte]
  repeat(refine And.intro (by omega) ?_)
  simp only[out,outs,out1,pur,and_self]
end Am
set_option maxRecDepth 20000
namespace Am
open Go.Proofs
/-! ### A block, by a key -/
theorem frzs_ints {hp:List Blk} {d:Nat} {k:Go.IntKind}:∀{xs:List Int} {J:List V→Prop},frzs (frz hp (d+1)) (xs.map (V.int k)) J=J (xs.map (V.int k))
  | [],J=>by rw[List.map_nil,frzs]
  | x::xs,J=>by rw[List.map_cons,frzs,qbp,frzs_ints (xs:=xs)]
theorem new_ok {k:List Int} (h:B16 k):L432 (newF k):=keys_ok (bxs_ok h.1 h.2 256) 10
theorem enc_ok {k b:List Int} (h:B16 k) (hb:B16 b):B16 (encF (newF k) b):=rnds_ok (new_ok h) hb 10
def preEncB (ds:List D):Prop:=∃k b:List Int,ds=[.v (.ints .u8 k),.v (.ints .u8 b)]∧B16 k∧B16 b
def F69:List D→Out
  | [.v (.ints _ k),.v (.ints _ b)]=>.one (.v (.ints .u8 (encF (newF k) b)))
  | _=>bad
def s69:Summ:=sData [.v,.v] preEncB F69
set_option maxHeartbeats 4000000 in
theorem ok69 {g:List Blk} [Ge gl g]:SumOK Tryd.prog g 69 s69∧SumAbs s69:=by
  refine fsumA (l:=[(66,s66),(79,s79)]) mixed gl_plain rfl Tryd.func69 comp69 compR69 nt69 (by simp only[List.mem_cons,List.not_mem_nil,or_false,forall_eq_or_imp,forall_eq];exact⟨ok66,ok79⟩) fun ds ⟨k,b,hd,hk,hb⟩ hA=>?_
  subst hd
  have hkl:=hk.1
  have hbl:=hb.1
  have sk:sub k 0 16=k:=sub_zero hkl
  have sb:sub b 0 16=b:=sub_zero hbl
  have q1:preBlk [.v (.ints .u8 k)]:=⟨k,rfl,hk.1,hk.2⟩
  have hL:=new_ok hk
  have hR:=enc_ok hk hb
  have e1:F66 [.v (.ints .u8 k)]=([],.one (.p ((newF k).map fun x=>.v (.int .u8 x)))):=rfl
  have e3:F69 [.v (.ints .u8 k),.v (.ints .u8 b)]=.one (.v (.ints .u8 (encF (newF k) b))):=rfl
  obtain⟨L,hLe⟩:∃L,newF k=L:=⟨_,rfl⟩
  rw[hLe]at hL hR e1 e3
  have q2:preEnc [.v (.rpc (L.map (V.int .u8)) 0),.v (.ints .u8 b)]:=⟨L,b,rfl,hL,hb⟩
  have e2:F79 [.v (.rpc (L.map (V.int .u8)) 0),.v (.ints .u8 b)]=.one (.v (.ints .u8 (encF L b))):=by
    show Out.one (.v (.ints .u8 (encF (unI (L.map (V.int .u8))) b)))=_
    rw[unI_ints]
  obtain⟨R,hRe⟩:∃R,encF L b=R:=⟨_,rfl⟩
  rw[hRe]at hR e2 e3
  have hRl:=hR.1
  have sR:sub R 0 16=R:=sub_zero hRl
  have pR:spl [0,0,0,0,0,0,0,0,0,0,0,0,0,0,0,0] 0 R=R:=qdb (by simp[hRl])
  simp only[s66,s79]
  simp only[ir69,rs69,gl,sk,sb,hkl,hbl,q1,q2,e1,e2,e3,hRl,sR,pR,s66,s79,injs_ints,blks_ints,cnts_ints,↓frzs_ints,sub_zero,qdb,qai,List.length_cons,List.length_nil,Nat.reduceAdd,Nat.le_refl,Nat.reduceLeDiff,Nat.reduceLT,true_and,and_true,↓qar,↓qan,↓qao,↓qap,↓qam,↓qaj,↓qak,↓qaq,↓qal,idsEs,idsE,idss,killB,effE,stA,wBlk,deads,nwA,cntA,cnts,cnt,valO,blkO,inj,injs,blk,blks,outA,outR,outE,outEs,sids,List.nodup_cons,List.nodup_nil,List.not_mem_nil,List.mem_cons,or_false,false_or,not_or,↓evA,evB,evs,evp,mkB,repB,blen,↓retQ,res,resAll,resOne,kill,apartOk,exp,injV,injB,pur,purs,purR,pursR,List.reduceReplicate,Nat.reduceMul,Nat.reduceSub,Nat.reduceEqDiff,Int.reduceToNat,Int.reduceLE,Int.reduceLT,Int.reduceEq,reduceCtorEq,↓reduceIte]
  repeat(refine And.intro (by omega) ?_)
  simp only[out,outs,out1,pur,and_self]
end Am
