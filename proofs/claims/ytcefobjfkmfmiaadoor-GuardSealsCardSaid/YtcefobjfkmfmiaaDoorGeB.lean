/-
Working texts: contracts of functions, and the numbers behind them.
-/
import Derived.Test.YtcefobjfkmfmiaaDoorGdA
set_option linter.unusedSimpArgs false
set_option linter.unusedVariables false
set_option linter.unusedSectionVars false
set_option maxRecDepth 20000
namespace Am
open Go.Proofs
/-! ### A packet's head -/
def fb (n:Nat):Int:=bOr .u8 64 (Go.IntKind.u8.wrap ((n:Int)-1))
def fbl (sp:Int) (n:Nat):Int:=bOr .u8 (bOr .u8 192 (Go.IntKind.u8.wrap (iShl .i64 sp 5))) (Go.IntKind.u8.wrap ((n:Int)-1))
def nmb (pn:Int) (n:Nat):Nat→List Int
  | 0=>[]
  | j+1=>nmb pn n j++[Go.IntKind.u8.wrap (iShr .u64 pn ((8*(n-1-j):Nat):Int))]
theorem nmb_len (pn:Int) (n:Nat):∀j,(nmb pn n j).length=j
  | 0=>rfl
  | j+1=>by simp[nmb,nmb_len pn n j]
theorem nmb_dig (pn:Int) (n:Nat):∀j,Dig 256 (nmb pn n j)
  | 0=>fun x hx=>by simp[nmb]at hx
  | j+1=>(nmb_dig pn n j).append fun x hx=>by
    simp only[List.mem_singleton]at hx
    subst hx
    exact w8_bd _
def hdL (sp:Int) (to fr:List Int) (n:Nat):List Int:=fbl sp n::0::0::0::1::8::to++8::fr
def hdZ (m:Nat):List Int:=[bOr .u8 64 (Go.IntKind.u8.wrap (iShr .i64 (m:Int) 8)),Go.IntKind.u8.wrap (m:Int)]
/-- What stands ahead of the number, for so many bytes behind the head. -/
def hdB (sp:Int) (to fr:List Int) (n m:Nat):List Int:=if sp=2 then fb n::to else if sp=0 then (hdL sp to fr n++[0])++hdZ m else hdL sp to fr n++hdZ m
def hdOK (sp:Int) (to fr:List Int):Bool:=decide (to.length=8)&&decide (0≤sp)&&decide (sp<3)&&(decide (sp=2)||decide (fr.length=8))
def putX (sp:Int) (to fr:List Int) (pn:Int) (n m:Nat):List Int:=if hdOK sp to fr then hdB sp to fr n m++nmb pn n n else []
def putE (sp:Int) (to fr:List Int):Int:=if hdOK sp to fr then 0 else 2
def vxs:V→List Int
  | .rsl _ _ _ xs=>xs
  | _=>[]
def Sl (v:V):Prop:=v=.nils∨v=.rsl 1 (vxs v).length .u8 (vxs v)
theorem Sl.pur {v:V} (h:Sl v):purR v=true:=by rcases h with h | h<;>rw[h]<;>rfl
theorem Sl.gc {v:V} (h:Sl v) (keep:List Nat):gcV keep v=v:=by rcases h with h | h<;>rw[h]<;>rfl
def prePut (ds:List D):Prop:=∃(sp:Int) (T R:V) (pn:Int) (n size:Nat),ds=[.v (.agg [.int .i64 sp,T,R]),.v (.int .u64 pn),.v (.int .i64 (n:Int)),.v (.int .i64 (size:Int))]∧Sl T∧Sl R∧1≤n∧n≤4∧size≤1200
def F48:List D→Out
  | [.v (.agg [.int _ sp,T,R]),.v (.int _ pn),.v (.int _ n),.v (.int _ m)]=>.many [.s .u8 (putX sp (vxs T) (vxs R) pn n.toNat (n.toNat+m.toNat)),.v (.int .i64 (putE sp (vxs T) (vxs R)))]
  | _=>bad
def s48:Summ:=sData [.r,.v,.v,.v] prePut F48
set_option maxHeartbeats 4000000 in
theorem ok48 {g:List Blk} [Ge gl g]:SumOK Tryd.prog g 48 s48∧SumAbs s48:=by
  refine fsumA (l:=[]) mixed gl_plain rfl Tryd.func48 comp48 compR48 nt48 (by simp) fun ds ⟨sp,T,R,pn,n,size,hd,hT,hR,hn1,hn4,hsz⟩ hA=>?_
  subst hd
  have hF:F48 [.v (.agg [.int .i64 sp,T,R]),.v (.int .u64 pn),.v (.int .i64 (n:Int)),.v (.int .i64 (size:Int))]=.many [.s .u8 (putX sp (vxs T) (vxs R) pn n (n+size)),.v (.int .i64 (putE sp (vxs T) (vxs R)))]:=rfl
  obtain⟨to,hto⟩:∃to,vxs T=to:=⟨_,rfl⟩
  obtain⟨fr,hfr⟩:∃fr,vxs R=fr:=⟨_,rfl⟩
  have hgT:=hT.gc
  have hpT:=hT.pur
  have hgR:=hR.gc
  have hpR:=hR.pur
  unfold Sl at hT hR
  rw[hto]at hT hF
  rw[hfr]at hR hF
  have bad:∀h:hdOK sp to fr=false,F48 [.v (.agg [.int .i64 sp,T,R]),.v (.int .u64 pn),.v (.int .i64 (n:Int)),.v (.int .i64 (size:Int))]=.many [.s .u8 [],.v (.int .i64 2)]:=fun h=>by
    rw[hF,putX,putE,h];rfl
  have good:∀h:hdOK sp to fr=true,F48 [.v (.agg [.int .i64 sp,T,R]),.v (.int .u64 pn),.v (.int .i64 (n:Int)),.v (.int .i64 (size:Int))]=.many [.s .u8 (hdB sp to fr n (n+size)++nmb pn n n),.v (.int .i64 0)]:=fun h=>by
    rw[hF,putX,putE,h];rfl
  clear hF
  have c1:¬(n:Int)<1:=by omega
  have c2:¬(4:Int)<(n:Int):=by omega
  have c3:¬(size:Int)<0:=by omega
  have c4:¬(1200:Int)<(size:Int):=by omega
  have wn:Go.IntKind.i64.wrap ((n:Int)-1)=(n:Int)-1:=by rw[wrap_i64];omega
  have wm:Go.IntKind.i64.wrap ((n:Int)+(size:Int))=((n+size:Nat):Int):=by rw[wrap_i64];omega
  by_cases h8:to.length=8
  · have hT8:T=.rsl 1 8 .u8 to:=by
      rcases hT with rfl | hT
      · rw[show vxs .nils=[]from rfl]at hto;subst hto;simp at h8
      · rw[hT,h8]
    rw[hT8]at bad good hgT hpT ⊢
    clear hT
    by_cases hs0:sp<0
    · have hF:=bad (by simp[hdOK,hs0];intros;omega)
      simp only[ir48,rs48,gl,hF,hpR,hs0,show ((8:Nat):Int)=8 from rfl,sub_zero,qdb,qai,List.length_cons,List.length_nil,Nat.reduceAdd,Nat.le_refl,Nat.reduceLeDiff,Nat.reduceLT,true_and,and_true,↓evA,evB,evs,evp,mkB,repB,blen,↓retQ,res,resAll,resOne,kill,apartOk,exp,injV,injB,pur,purs,purR,pursR,List.reduceReplicate,Nat.reduceMul,Nat.reduceSub,Nat.reduceEqDiff,Int.reduceToNat,Int.reduceLE,Int.reduceLT,Int.reduceEq,reduceCtorEq,↓reduceIte]
      simp[out,outs,out1,pur]
    by_cases hs3:3≤sp
    · have hF:=bad (by simp[hdOK];intros;omega)
      simp only[ir48,rs48,gl,hF,hpR,hs0,hs3,show ((8:Nat):Int)=8 from rfl,sub_zero,qdb,qai,List.length_cons,List.length_nil,Nat.reduceAdd,Nat.le_refl,Nat.reduceLeDiff,Nat.reduceLT,true_and,and_true,↓evA,evB,evs,evp,mkB,repB,blen,↓retQ,res,resAll,resOne,kill,apartOk,exp,injV,injB,pur,purs,purR,pursR,List.reduceReplicate,Nat.reduceMul,Nat.reduceSub,Nat.reduceEqDiff,Int.reduceToNat,Int.reduceLE,Int.reduceLT,Int.reduceEq,reduceCtorEq,↓reduceIte]
      simp[out,outs,out1,pur]
    by_cases hs2:sp=2
    · subst hs2
      have hF:=good (by simp[hdOK,h8])
      have hfb:bOr .u8 64 (Go.IntKind.u8.wrap ((n:Int)-1))=fb n:=rfl
      rw[show hdB 2 to fr n (n+size)=fb n::to from rfl]at hF
      simp only[ir48,rs48,gl,hF,hpR,h8,c1,c2,c3,c4,wn,hfb,show ((8:Nat):Int)=8 from rfl,sub_zero,qdb,qai,List.length_cons,List.length_nil,Nat.reduceAdd,Nat.le_refl,Nat.reduceLeDiff,Nat.reduceLT,true_and,and_true,↓evA,evB,evs,evp,mkB,repB,blen,↓retQ,res,resAll,resOne,kill,apartOk,exp,injV,injB,pur,purs,purR,pursR,List.reduceReplicate,Nat.reduceMul,Nat.reduceSub,Nat.reduceEqDiff,Int.reduceToNat,Int.reduceLE,Int.reduceLT,Int.reduceEq,reduceCtorEq,↓reduceIte]
      refine awp_loopA (n:=110) hA [1,10,12] (by decide +kernel) (fun j:Nat=>[.int .u64 pn,.slice 6 0 1 (9+j) (9+j),.int .i64 ((n:Int)-1-(j:Int))])
        (fun j=>[.ints true .u64 roots,.dead,.dead,.dead,.cells false [.int .i64 2,.rsl 1 8 .u8 to,R],.dead,.ints false .u8 (fb n::to++nmb pn n j)]) (fun j=>j≤n) (fun j=>n-j) 0 ?_ (by omega) ?_
      · refine Hd.same ?_
        simp only[nmb,show ((0:Nat):Int)=0 from rfl,Int.sub_zero,↓evA,evB,evs,evp,mkB,repB,blen,↓retQ,res,resAll,resOne,kill,apartOk,exp,injV,injB,pur,purs,purR,pursR,List.reduceReplicate,Nat.reduceAdd,Nat.reduceMul,Nat.reduceSub,Nat.reduceEqDiff,Nat.reduceLT,Int.reduceToNat,Int.reduceLE,Int.reduceLT,Int.reduceEq,reduceCtorEq,↓reduceIte]
      intro j hj K hK
      by_cases hlt:j<n
      · have d1:(0:Int)≤(n:Int)-1-(j:Int):=by omega
        have w8:Go.IntKind.i64.wrap (8*((n:Int)-1-(j:Int)))=((8*(n-1-j):Nat):Int):=by rw[wrap_i64];omega
        have wi:Go.IntKind.i64.wrap ((n:Int)-1-(j:Int)-1)=(n:Int)-1-((j+1:Nat):Int):=by rw[wrap_i64];omega
        have hst:fb n::to++nmb pn n (j+1)=(fb n::to++nmb pn n j)++[Go.IntKind.u8.wrap (iShr .u64 pn ((8*(n-1-j):Nat):Int))]:=by rw[nmb,List.append_assoc]
        have hyl:(fb n::to++nmb pn n j).length=9+j:=by simp[h8,nmb_len];omega
        obtain⟨Y,hY⟩:∃Y,fb n::to++nmb pn n j=Y:=⟨_,rfl⟩
        rw[hY]at hst hyl
        have hst':=hst
        simp only[List.cons_append]at hY hst'
        simp only[d1,w8,wi,hY,hyl,sub_zero,qdb,qai,List.length_cons,List.length_nil,Nat.reduceAdd,Nat.le_refl,Nat.reduceLeDiff,Nat.reduceLT,true_and,and_true,↓evA,evB,evs,evp,mkB,repB,blen,↓retQ,res,resAll,resOne,kill,apartOk,exp,injV,injB,pur,purs,purR,pursR,List.reduceReplicate,Nat.reduceMul,Nat.reduceSub,Nat.reduceEqDiff,Int.reduceToNat,Int.reduceLE,Int.reduceLT,Int.reduceEq,reduceCtorEq,↓reduceIte]
        repeat(refine And.intro (by omega) ?_)
        refine⟨j+1,hK _ (by omega) (by omega),Hd.of [0,1,2,3,4,5,8] (by decide) (by decide) (by simp) ?_⟩
        simp only[hst',hgR,←Nat.add_assoc,gc,gcVs,gcV,posOf,gcH,gcB,Option.map_some,Option.map_none,List.replicate_zero,List.drop_zero,↓evA,evB,evs,evp,mkB,repB,blen,↓retQ,res,resAll,resOne,kill,apartOk,exp,injV,injB,pur,purs,purR,pursR,List.reduceReplicate,Nat.reduceAdd,Nat.reduceMul,Nat.reduceSub,Nat.reduceEqDiff,Nat.reduceLT,Int.reduceToNat,Int.reduceLE,Int.reduceLT,Int.reduceEq,reduceCtorEq,↓reduceIte]
      obtain rfl:j=n:=by omega
      have d1:¬(0:Int)≤(j:Int)-1-(j:Int):=by omega
      have hyl:(fb j::to++nmb pn j j).length=9+j:=by simp[h8,nmb_len];omega
      obtain⟨Y,hY⟩:∃Y,fb j::to++nmb pn j j=Y:=⟨_,rfl⟩
      rw[hY]at hF hyl
      simp only[List.cons_append]at hY
      have sY:sub Y 0 (9+j)=Y:=sub_zero hyl
      simp only[d1,hY,hF,sub_zero,qdb,qai,List.length_cons,List.length_nil,Nat.reduceAdd,Nat.le_refl,Nat.reduceLeDiff,Nat.reduceLT,true_and,and_true,↓evA,evB,evs,evp,mkB,repB,blen,↓retQ,res,resAll,resOne,kill,apartOk,exp,injV,injB,pur,purs,purR,pursR,List.reduceReplicate,Nat.reduceMul,Nat.reduceSub,Nat.reduceEqDiff,Int.reduceToNat,Int.reduceLE,Int.reduceLT,Int.reduceEq,reduceCtorEq,↓reduceIte]
      simp only[out,outs,out1,pur,hyl,sY,Nat.zero_add,purs,qcz,qc0,List.not_mem_nil,not_false_eq_true,true_and,and_true,Nat.reduceLeDiff,Nat.le_refl]
    by_cases hr8:fr.length=8
    · have hR8:R=.rsl 1 8 .u8 fr:=by
        rcases hR with rfl | hR
        · rw[show vxs .nils=[]from rfl]at hfr;subst hfr;simp at hr8
        · rw[hR,hr8]
      subst hR8
      obtain⟨f,hfl⟩:∃f,fbl sp n=f:=⟨_,rfl⟩
      have hfb:=hfl
      unfold fbl at hfb
      have hF:=good (by simp[hdOK,h8,hr8];omega)
      have hz:hdZ (n+size)=[bOr .u8 64 (Go.IntKind.u8.wrap (iShr .i64 ((n+size:Nat):Int) 8)),Go.IntKind.u8.wrap ((n+size:Nat):Int)]:=rfl
      obtain⟨z1,hz1⟩:∃z,bOr .u8 64 (Go.IntKind.u8.wrap (iShr .i64 ((n+size:Nat):Int) 8))=z:=⟨_,rfl⟩
      obtain⟨z2,hz2⟩:∃z,Go.IntKind.u8.wrap ((n+size:Nat):Int)=z:=⟨_,rfl⟩
      rw[hz1,hz2]at hz
      by_cases hsz0:sp=0
      · subst hsz0
        simp only[ir48,rs48,gl,h8,hr8,hs0,hs2,hs3,c1,c2,c3,c4,wn,wm,hfb,hz1,hz2,show ((8:Nat):Int)=8 from rfl,sub_zero,qdb,qai,List.length_cons,List.length_nil,Nat.reduceAdd,Nat.le_refl,Nat.reduceLeDiff,Nat.reduceLT,true_and,and_true,↓evA,evB,evs,evp,mkB,repB,blen,↓retQ,res,resAll,resOne,kill,apartOk,exp,injV,injB,pur,purs,purR,pursR,List.reduceReplicate,Nat.reduceMul,Nat.reduceSub,Nat.reduceEqDiff,Int.reduceToNat,Int.reduceLE,Int.reduceLT,Int.reduceEq,reduceCtorEq,↓reduceIte]
        have hBe:hdB 0 to fr n (n+size)=f::0::0::0::1::8::(to++8::(fr++[0,z1,z2])):=by
          simp[hdB,hdL,hfl,hz]
        have hBl:(f::0::0::0::1::8::(to++8::(fr++[0,z1,z2]))).length=26:=by simp[h8,hr8]
        obtain⟨B,hB⟩:∃B,f::0::0::0::1::8::(to++8::(fr++[0,z1,z2]))=B:=⟨_,rfl⟩
        rw[hB]at hBe hBl
        rw[hBe]at hF
        refine awp_loopA (n:=110) hA [1,10,12] (by decide +kernel) (fun j:Nat=>[.int .u64 pn,.slice 13 0 1 (26+j) (26+j),.int .i64 ((n:Int)-1-(j:Int))])
          (fun j=>[.ints true .u64 roots,.dead,.dead,.dead,.cells false [.int .i64 0,.rsl 1 8 .u8 to,.rsl 1 8 .u8 fr],.dead,.dead,.ints false .u8 [8],.dead,.dead,.ints false .u8 [0],.dead,.ints false .u8 [z1,z2],.ints false .u8 (B++nmb pn n j)]) (fun j=>j≤n) (fun j=>n-j) 0 ?_ (by omega) ?_
        · refine Hd.same ?_
          simp only[hB,nmb,List.append_nil,show ((0:Nat):Int)=0 from rfl,Int.sub_zero,↓evA,evB,evs,evp,mkB,repB,blen,↓retQ,res,resAll,resOne,kill,apartOk,exp,injV,injB,pur,purs,purR,pursR,List.reduceReplicate,Nat.reduceAdd,Nat.reduceMul,Nat.reduceSub,Nat.reduceEqDiff,Nat.reduceLT,Int.reduceToNat,Int.reduceLE,Int.reduceLT,Int.reduceEq,reduceCtorEq,↓reduceIte]
        intro j hj K hK
        by_cases hlt:j<n
        · have d1:(0:Int)≤(n:Int)-1-(j:Int):=by omega
          have w8:Go.IntKind.i64.wrap (8*((n:Int)-1-(j:Int)))=((8*(n-1-j):Nat):Int):=by rw[wrap_i64];omega
          have wi:Go.IntKind.i64.wrap ((n:Int)-1-(j:Int)-1)=(n:Int)-1-((j+1:Nat):Int):=by rw[wrap_i64];omega
          have hst:B++nmb pn n (j+1)=(B++nmb pn n j)++[Go.IntKind.u8.wrap (iShr .u64 pn ((8*(n-1-j):Nat):Int))]:=by rw[nmb,List.append_assoc]
          have hyl:(B++nmb pn n j).length=26+j:=by simp[hBl,nmb_len]
          obtain⟨Y,hY⟩:∃Y,B++nmb pn n j=Y:=⟨_,rfl⟩
          rw[hY]at hst hyl
          simp only[d1,w8,wi,hY,hyl,sub_zero,qdb,qai,List.length_cons,List.length_nil,Nat.reduceAdd,Nat.le_refl,Nat.reduceLeDiff,Nat.reduceLT,true_and,and_true,↓evA,evB,evs,evp,mkB,repB,blen,↓retQ,res,resAll,resOne,kill,apartOk,exp,injV,injB,pur,purs,purR,pursR,List.reduceReplicate,Nat.reduceMul,Nat.reduceSub,Nat.reduceEqDiff,Int.reduceToNat,Int.reduceLE,Int.reduceLT,Int.reduceEq,reduceCtorEq,↓reduceIte]
          repeat(refine And.intro (by omega) ?_)
          refine⟨j+1,hK _ (by omega) (by omega),Hd.of [0,1,2,3,4,5,6,7,8,9,10,11,12,15] (by decide) (by decide) (by simp) ?_⟩
          simp only[hst,←Nat.add_assoc,gc,gcVs,gcV,posOf,gcH,gcB,Option.map_some,Option.map_none,List.replicate_zero,List.drop_zero,↓evA,evB,evs,evp,mkB,repB,blen,↓retQ,res,resAll,resOne,kill,apartOk,exp,injV,injB,pur,purs,purR,pursR,List.reduceReplicate,Nat.reduceAdd,Nat.reduceMul,Nat.reduceSub,Nat.reduceEqDiff,Nat.reduceLT,Int.reduceToNat,Int.reduceLE,Int.reduceLT,Int.reduceEq,reduceCtorEq,↓reduceIte]
        obtain rfl:j=n:=by omega
        have d1:¬(0:Int)≤(j:Int)-1-(j:Int):=by omega
        have hyl:(B++nmb pn j j).length=26+j:=by simp[hBl,nmb_len]
        obtain⟨Y,hY⟩:∃Y,B++nmb pn j j=Y:=⟨_,rfl⟩
        rw[hY]at hF hyl
        have sY:sub Y 0 (26+j)=Y:=sub_zero hyl
        simp only[d1,hY,hF,sub_zero,qdb,qai,List.length_cons,List.length_nil,Nat.reduceAdd,Nat.le_refl,Nat.reduceLeDiff,Nat.reduceLT,true_and,and_true,↓evA,evB,evs,evp,mkB,repB,blen,↓retQ,res,resAll,resOne,kill,apartOk,exp,injV,injB,pur,purs,purR,pursR,List.reduceReplicate,Nat.reduceMul,Nat.reduceSub,Nat.reduceEqDiff,Int.reduceToNat,Int.reduceLE,Int.reduceLT,Int.reduceEq,reduceCtorEq,↓reduceIte]
        simp only[out,outs,out1,pur,hyl,sY,Nat.zero_add,purs,qcz,qc0,List.not_mem_nil,not_false_eq_true,true_and,and_true,Nat.reduceLeDiff,Nat.le_refl]
      · simp only[ir48,rs48,gl,h8,hr8,hs0,hs2,hs3,hsz0,c1,c2,c3,c4,wn,wm,hfb,hz1,hz2,show ((8:Nat):Int)=8 from rfl,sub_zero,qdb,qai,List.length_cons,List.length_nil,Nat.reduceAdd,Nat.le_refl,Nat.reduceLeDiff,Nat.reduceLT,true_and,and_true,↓evA,evB,evs,evp,mkB,repB,blen,↓retQ,res,resAll,resOne,kill,apartOk,exp,injV,injB,pur,purs,purR,pursR,List.reduceReplicate,Nat.reduceMul,Nat.reduceSub,Nat.reduceEqDiff,Int.reduceToNat,Int.reduceLE,Int.reduceLT,Int.reduceEq,reduceCtorEq,↓reduceIte]
        have hBe:hdB sp to fr n (n+size)=f::0::0::0::1::8::(to++8::(fr++[z1,z2])):=by
          simp[hdB,hdL,hfl,hz,hs2,hsz0]
        have hBl:(f::0::0::0::1::8::(to++8::(fr++[z1,z2]))).length=25:=by simp[h8,hr8]
        obtain⟨B,hB⟩:∃B,f::0::0::0::1::8::(to++8::(fr++[z1,z2]))=B:=⟨_,rfl⟩
        rw[hB]at hBe hBl
        rw[hBe]at hF
        refine awp_loopA (n:=110) hA [1,10,12] (by decide +kernel) (fun j:Nat=>[.int .u64 pn,.slice 11 0 1 (25+j) (25+j),.int .i64 ((n:Int)-1-(j:Int))])
          (fun j=>[.ints true .u64 roots,.dead,.dead,.dead,.cells false [.int .i64 sp,.rsl 1 8 .u8 to,.rsl 1 8 .u8 fr],.dead,.dead,.ints false .u8 [8],.dead,.dead,.ints false .u8 [z1,z2],.ints false .u8 (B++nmb pn n j)]) (fun j=>j≤n) (fun j=>n-j) 0 ?_ (by omega) ?_
        · refine Hd.same ?_
          simp only[hB,nmb,List.append_nil,show ((0:Nat):Int)=0 from rfl,Int.sub_zero,↓evA,evB,evs,evp,mkB,repB,blen,↓retQ,res,resAll,resOne,kill,apartOk,exp,injV,injB,pur,purs,purR,pursR,List.reduceReplicate,Nat.reduceAdd,Nat.reduceMul,Nat.reduceSub,Nat.reduceEqDiff,Nat.reduceLT,Int.reduceToNat,Int.reduceLE,Int.reduceLT,Int.reduceEq,reduceCtorEq,↓reduceIte]
        intro j hj K hK
        by_cases hlt:j<n
        · have d1:(0:Int)≤(n:Int)-1-(j:Int):=by omega
          have w8:Go.IntKind.i64.wrap (8*((n:Int)-1-(j:Int)))=((8*(n-1-j):Nat):Int):=by rw[wrap_i64];omega
          have wi:Go.IntKind.i64.wrap ((n:Int)-1-(j:Int)-1)=(n:Int)-1-((j+1:Nat):Int):=by rw[wrap_i64];omega
          have hst:B++nmb pn n (j+1)=(B++nmb pn n j)++[Go.IntKind.u8.wrap (iShr .u64 pn ((8*(n-1-j):Nat):Int))]:=by rw[nmb,List.append_assoc]
          have hyl:(B++nmb pn n j).length=25+j:=by simp[hBl,nmb_len]
          obtain⟨Y,hY⟩:∃Y,B++nmb pn n j=Y:=⟨_,rfl⟩
          rw[hY]at hst hyl
          simp only[d1,w8,wi,hY,hyl,sub_zero,qdb,qai,List.length_cons,List.length_nil,Nat.reduceAdd,Nat.le_refl,Nat.reduceLeDiff,Nat.reduceLT,true_and,and_true,↓evA,evB,evs,evp,mkB,repB,blen,↓retQ,res,resAll,resOne,kill,apartOk,exp,injV,injB,pur,purs,purR,pursR,List.reduceReplicate,Nat.reduceMul,Nat.reduceSub,Nat.reduceEqDiff,Int.reduceToNat,Int.reduceLE,Int.reduceLT,Int.reduceEq,reduceCtorEq,↓reduceIte]
          repeat(refine And.intro (by omega) ?_)
          refine⟨j+1,hK _ (by omega) (by omega),Hd.of [0,1,2,3,4,5,6,7,8,9,10,13] (by decide) (by decide) (by simp) ?_⟩
          simp only[hst,←Nat.add_assoc,gc,gcVs,gcV,posOf,gcH,gcB,Option.map_some,Option.map_none,List.replicate_zero,List.drop_zero,↓evA,evB,evs,evp,mkB,repB,blen,↓retQ,res,resAll,resOne,kill,apartOk,exp,injV,injB,pur,purs,purR,pursR,List.reduceReplicate,Nat.reduceAdd,Nat.reduceMul,Nat.reduceSub,Nat.reduceEqDiff,Nat.reduceLT,Int.reduceToNat,Int.reduceLE,Int.reduceLT,Int.reduceEq,reduceCtorEq,↓reduceIte]
        obtain rfl:j=n:=by omega
        have d1:¬(0:Int)≤(j:Int)-1-(j:Int):=by omega
        have hyl:(B++nmb pn j j).length=25+j:=by simp[hBl,nmb_len]
        obtain⟨Y,hY⟩:∃Y,B++nmb pn j j=Y:=⟨_,rfl⟩
        rw[hY]at hF hyl
        have sY:sub Y 0 (25+j)=Y:=sub_zero hyl
        simp only[d1,hY,hF,sub_zero,qdb,qai,List.length_cons,List.length_nil,Nat.reduceAdd,Nat.le_refl,Nat.reduceLeDiff,Nat.reduceLT,true_and,and_true,↓evA,evB,evs,evp,mkB,repB,blen,↓retQ,res,resAll,resOne,kill,apartOk,exp,injV,injB,pur,purs,purR,pursR,List.reduceReplicate,Nat.reduceMul,Nat.reduceSub,Nat.reduceEqDiff,Int.reduceToNat,Int.reduceLE,Int.reduceLT,Int.reduceEq,reduceCtorEq,↓reduceIte]
        simp only[out,outs,out1,pur,hyl,sY,Nat.zero_add,purs,qcz,qc0,List.not_mem_nil,not_false_eq_true,true_and,and_true,Nat.reduceLeDiff,Nat.le_refl]
    · have hF:=bad (by simp[hdOK,hr8,hs2])
      rcases hR with rfl | hR
      · simp only[ir48,rs48,gl,hF,hs0,hs2,hs3,c1,c2,c3,c4,show ((8:Nat):Int)=8 from rfl,sub_zero,qdb,qai,List.length_cons,List.length_nil,Nat.reduceAdd,Nat.le_refl,Nat.reduceLeDiff,Nat.reduceLT,true_and,and_true,↓evA,evB,evs,evp,mkB,repB,blen,↓retQ,res,resAll,resOne,kill,apartOk,exp,injV,injB,pur,purs,purR,pursR,List.reduceReplicate,Nat.reduceMul,Nat.reduceSub,Nat.reduceEqDiff,Int.reduceToNat,Int.reduceLE,Int.reduceLT,Int.reduceEq,reduceCtorEq,↓reduceIte]
        simp[out,outs,out1,pur]
      · have e8:¬(fr.length:Int)=8:=by omega
        rw[hR]at hF ⊢
        simp only[ir48,rs48,gl,hF,hs0,hs2,hs3,c1,c2,c3,c4,e8,show ((8:Nat):Int)=8 from rfl,sub_zero,qdb,qai,List.length_cons,List.length_nil,Nat.reduceAdd,Nat.le_refl,Nat.reduceLeDiff,Nat.reduceLT,true_and,and_true,↓evA,evB,evs,evp,mkB,repB,blen,↓retQ,res,resAll,resOne,kill,apartOk,exp,injV,injB,pur,purs,purR,pursR,List.reduceReplicate,Nat.reduceMul,Nat.reduceSub,Nat.reduceEqDiff,Int.reduceToNat,Int.reduceLE,Int.reduceLT,Int.reduceEq,reduceCtorEq,↓reduceIte]
        simp[out,outs,out1,pur]
  · have hF:=bad (by simp[hdOK,h8])
    rcases hT with rfl | hT
    · simp only[ir48,rs48,gl,hF,hpR,sub_zero,qdb,qai,List.length_cons,List.length_nil,Nat.reduceAdd,Nat.le_refl,Nat.reduceLeDiff,Nat.reduceLT,true_and,and_true,↓evA,evB,evs,evp,mkB,repB,blen,↓retQ,res,resAll,resOne,kill,apartOk,exp,injV,injB,pur,purs,purR,pursR,List.reduceReplicate,Nat.reduceMul,Nat.reduceSub,Nat.reduceEqDiff,Int.reduceToNat,Int.reduceLE,Int.reduceLT,Int.reduceEq,reduceCtorEq,↓reduceIte]
      simp[out,outs,out1,pur]
    · have e8:¬(to.length:Int)=8:=by omega
      rw[hT]at hF hpT ⊢
      simp only[ir48,rs48,gl,hF,hpR,e8,sub_zero,qdb,qai,List.length_cons,List.length_nil,Nat.reduceAdd,Nat.le_refl,Nat.reduceLeDiff,Nat.reduceLT,true_and,and_true,↓evA,evB,evs,evp,mkB,repB,blen,↓retQ,res,resAll,resOne,kill,apartOk,exp,injV,injB,pur,purs,purR,pursR,List.reduceReplicate,Nat.reduceMul,Nat.reduceSub,Nat.reduceEqDiff,Int.reduceToNat,Int.reduceLE,Int.reduceLT,Int.reduceEq,reduceCtorEq,↓reduceIte]
      simp[out,outs,out1,pur]
end Am
