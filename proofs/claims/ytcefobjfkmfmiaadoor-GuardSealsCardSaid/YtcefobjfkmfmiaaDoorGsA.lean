/-
Working texts: contracts of functions, and the numbers behind them.
-/
import Derived.Test.YtcefobjfkmfmiaaDoorGeA
import Derived.Test.YtcefobjfkmfmiaaDoorIrGs
import Derived.Test.YtcefobjfkmfmiaaDoorAeR
set_option linter.unusedSimpArgs false
set_option linter.unusedVariables false
set_option linter.unusedSectionVars false
set_option maxRecDepth 20000
namespace Am
open Go.Proofs
/-! ### A packet's head, as the document has it -/
def F52:List D→Out
  | [.v (.int _ pn),.v (.int _ ac)]=>.one (.v (.int .i64 (shortN (pn.toNat-ac.toNat):Nat)))
  | _=>bad
def s52:Summ:=sData [.v,.v] preShort F52
theorem ok52 {g:List Blk} [Ge gl g]:SumOK Tryd.prog g 52 s52∧SumAbs s52:=by
  refine fsumA (l:=[]) mixed gl_plain rfl Tryd.func52 comp52 compR52 nt52 (by simp) fun ds ⟨pn,ac,hd,hac,hpn⟩ hA=>?_
  subst hd
  have hF:F52 [.v (.int .u64 (pn:Int)),.v (.int .u64 (ac:Int))]=.one (.v (.int .i64 (shortN (pn-ac):Nat))):=rfl
  generalize hdd:pn-ac=d at *
  have w1:Go.IntKind.u64.wrap ((pn:Int)-(ac:Int))=(d:Int):=by rw[wrap_u64];omega
  unfold shortN at hF
  by_cases a1:d<128
  · have c1:(d:Int)<128:=by omega
    rw[if_pos (by omega)]at hF
    simp only[ir52,rs52,gl,hF,w1,c1,sub_zero,qdb,qai,List.length_cons,List.length_nil,Nat.reduceAdd,Nat.le_refl,Nat.reduceLeDiff,Nat.reduceLT,true_and,and_true,↓evA,evB,evs,evp,mkB,repB,blen,↓retQ,res,resAll,resOne,kill,apartOk,exp,injV,injB,pur,purs,purR,pursR,List.reduceReplicate,Nat.reduceMul,Nat.reduceSub,Nat.reduceEqDiff,Int.reduceToNat,Int.reduceLE,Int.reduceLT,Int.reduceEq,reduceCtorEq,↓reduceIte]
    exact out_int rfl
  have c1:¬(d:Int)<128:=by omega
  rw[if_neg (by omega)]at hF
  by_cases a2:d<32768
  · have c2:(d:Int)<32768:=by omega
    rw[if_pos (by omega)]at hF
    simp only[ir52,rs52,gl,hF,w1,c1,c2,sub_zero,qdb,qai,List.length_cons,List.length_nil,Nat.reduceAdd,Nat.le_refl,Nat.reduceLeDiff,Nat.reduceLT,true_and,and_true,↓evA,evB,evs,evp,mkB,repB,blen,↓retQ,res,resAll,resOne,kill,apartOk,exp,injV,injB,pur,purs,purR,pursR,List.reduceReplicate,Nat.reduceMul,Nat.reduceSub,Nat.reduceEqDiff,Int.reduceToNat,Int.reduceLE,Int.reduceLT,Int.reduceEq,reduceCtorEq,↓reduceIte]
    exact out_int rfl
  have c2:¬(d:Int)<32768:=by omega
  rw[if_neg (by omega)]at hF
  by_cases a3:d<8388608
  · have c3:(d:Int)<8388608:=by omega
    rw[if_pos (by omega)]at hF
    simp only[ir52,rs52,gl,hF,w1,c1,c2,c3,sub_zero,qdb,qai,List.length_cons,List.length_nil,Nat.reduceAdd,Nat.le_refl,Nat.reduceLeDiff,Nat.reduceLT,true_and,and_true,↓evA,evB,evs,evp,mkB,repB,blen,↓retQ,res,resAll,resOne,kill,apartOk,exp,injV,injB,pur,purs,purR,pursR,List.reduceReplicate,Nat.reduceMul,Nat.reduceSub,Nat.reduceEqDiff,Int.reduceToNat,Int.reduceLE,Int.reduceLT,Int.reduceEq,reduceCtorEq,↓reduceIte]
    exact out_int rfl
  have c3:¬(d:Int)<8388608:=by omega
  rw[if_neg (by omega)]at hF
  simp only[ir52,rs52,gl,hF,w1,c1,c2,c3,sub_zero,qdb,qai,List.length_cons,List.length_nil,Nat.reduceAdd,Nat.le_refl,Nat.reduceLeDiff,Nat.reduceLT,true_and,and_true,↓evA,evB,evs,evp,mkB,repB,blen,↓retQ,res,resAll,resOne,kill,apartOk,exp,injV,injB,pur,purs,purR,pursR,List.reduceReplicate,Nat.reduceMul,Nat.reduceSub,Nat.reduceEqDiff,Int.reduceToNat,Int.reduceLE,Int.reduceLT,Int.reduceEq,reduceCtorEq,↓reduceIte]
  exact out_int rfl
theorem hd_fb {n:Nat} (h1:1≤n) (h4:n≤4):Go.IntKind.u8.wrap (63+(n:Int))=fb n:=by
  rcases (by omega:n=1∨n=2∨n=3∨n=4)with rfl | rfl | rfl | rfl<;>decide +kernel
theorem hd_fbl {sp:Int} (hs:sp=0∨sp=1) {n:Nat} (h1:1≤n) (h4:n≤4):Go.IntKind.u8.wrap (Go.IntKind.i64.wrap (Go.IntKind.i64.wrap (191+Go.IntKind.i64.wrap (32*sp))+(n:Int)))=fbl sp n:=by
  rcases hs with rfl | rfl<;>rcases (by omega:n=1∨n=2∨n=3∨n=4)with rfl | rfl | rfl | rfl<;>decide +kernel
theorem hd_z1 {m:Nat} (h:m≤1204):Go.IntKind.u8.wrap (Go.IntKind.i64.wrap (64+Go.IntKind.i64.wrap ((m:Int).tdiv 256)))=bOr .u8 64 (Go.IntKind.u8.wrap (iShr .i64 (m:Int) 8)):=by
  have e:Go.IntKind.u8.wrap (iShr .i64 (m:Int) 8)=((m/256:Nat):Int):=by
    unfold iShr
    rw[show (8:Int).toNat=8 from rfl,show Go.IntKind.i64.bits=64 from rfl,show min 8 64=8 from rfl,fdiv_nat,wrap_u8]
    omega
  rw[e,Int.tdiv_eq_ediv_of_nonneg (by omega),show ((m:Int)/256)=((m/256:Nat):Int) by omega]
  generalize hq:m/256=q
  have hq4:q≤4:=by omega
  rcases (by omega:q=0∨q=1∨q=2∨q=3∨q=4)with rfl | rfl | rfl | rfl | rfl<;>decide +kernel
theorem hd_z2 {m:Nat} (h:m≤1204):Go.IntKind.u8.wrap ((m:Int).tmod 256)=Go.IntKind.u8.wrap (m:Int):=by
  rw[Int.tmod_eq_emod_of_nonneg (by omega),wrap_u8,wrap_u8];omega
def F53:List D→Out
  | [.v (.agg [.int _ sp,T,R]),.v (.int _ pn),.v (.int _ n),.v (.int _ m)]=>.many [.s .u8 (putX sp (vxs T) (vxs R) pn n.toNat (n.toNat+m.toNat)),.v (.int .i64 (putE sp (vxs T) (vxs R)))]
  | _=>bad
def s53:Summ:=sData [.r,.v,.v,.v] prePut F53
set_option maxHeartbeats 4000000 in
theorem ok53 {g:List Blk} [Ge gl g]:SumOK Tryd.prog g 53 s53∧SumAbs s53:=by
  refine fsumA (l:=[]) mixed gl_plain rfl Tryd.func53 comp53 compR53 nt53 (by simp) fun ds ⟨sp,T,R,pn,n,size,hd,hT,hR,hn1,hn4,hsz⟩ hA=>?_
  subst hd
  have hF:F53 [.v (.agg [.int .i64 sp,T,R]),.v (.int .u64 pn),.v (.int .i64 (n:Int)),.v (.int .i64 (size:Int))]=.many [.s .u8 (putX sp (vxs T) (vxs R) pn n (n+size)),.v (.int .i64 (putE sp (vxs T) (vxs R)))]:=rfl
  obtain⟨to,hto⟩:∃to,vxs T=to:=⟨_,rfl⟩
  obtain⟨fr,hfr⟩:∃fr,vxs R=fr:=⟨_,rfl⟩
  have hgT:=hT.gc
  have hpT:=hT.pur
  have hgR:=hR.gc
  have hpR:=hR.pur
  unfold Sl at hT hR
  rw[hto]at hT hF
  rw[hfr]at hR hF
  have bad:∀h:hdOK sp to fr=false,F53 [.v (.agg [.int .i64 sp,T,R]),.v (.int .u64 pn),.v (.int .i64 (n:Int)),.v (.int .i64 (size:Int))]=.many [.s .u8 [],.v (.int .i64 2)]:=fun h=>by
    rw[hF,putX,putE,h];rfl
  have good:∀h:hdOK sp to fr=true,F53 [.v (.agg [.int .i64 sp,T,R]),.v (.int .u64 pn),.v (.int .i64 (n:Int)),.v (.int .i64 (size:Int))]=.many [.s .u8 (hdB sp to fr n (n+size)++nmb pn n n),.v (.int .i64 0)]:=fun h=>by
    rw[hF,putX,putE,h];rfl
  clear hF
  have c1:¬(n:Int)<1:=by omega
  have c2:¬(4:Int)<(n:Int):=by omega
  have c3:¬(size:Int)<0:=by omega
  have c4:¬(1200:Int)<(size:Int):=by omega
  have wn:Go.IntKind.i64.wrap ((n:Int)-1)=(n:Int)-1:=by rw[wrap_i64];omega
  have wm:Go.IntKind.i64.wrap ((n:Int)+(size:Int))=((n+size:Nat):Int):=by rw[wrap_i64];omega
  have wf1:Go.IntKind.i64.wrap (63+(n:Int))=63+(n:Int):=by rw[wrap_i64];omega
  have n256:¬(256:Int)=0:=by decide
  by_cases hs0:sp<0
  · have hF:=bad (by simp[hdOK,hs0];intros;omega)
    simp only[ir53,rs53,gl,hF,hpT,hpR,hs0,sub_zero,qdb,qai,List.length_cons,List.length_nil,Nat.reduceAdd,Nat.le_refl,Nat.reduceLeDiff,Nat.reduceLT,true_and,and_true,↓evA,evB,evs,evp,mkB,repB,blen,↓retQ,res,resAll,resOne,kill,apartOk,exp,injV,injB,pur,purs,purR,pursR,List.reduceReplicate,Nat.reduceMul,Nat.reduceSub,Nat.reduceEqDiff,Int.reduceToNat,Int.reduceLE,Int.reduceLT,Int.reduceEq,reduceCtorEq,↓reduceIte]
    simp[out,outs,out1,pur]
  by_cases hs3:2<sp
  · have hF:=bad (by simp[hdOK];intros;omega)
    simp only[ir53,rs53,gl,hF,hpT,hpR,hs0,hs3,sub_zero,qdb,qai,List.length_cons,List.length_nil,Nat.reduceAdd,Nat.le_refl,Nat.reduceLeDiff,Nat.reduceLT,true_and,and_true,↓evA,evB,evs,evp,mkB,repB,blen,↓retQ,res,resAll,resOne,kill,apartOk,exp,injV,injB,pur,purs,purR,pursR,List.reduceReplicate,Nat.reduceMul,Nat.reduceSub,Nat.reduceEqDiff,Int.reduceToNat,Int.reduceLE,Int.reduceLT,Int.reduceEq,reduceCtorEq,↓reduceIte]
    simp[out,outs,out1,pur]
  by_cases h8:to.length=8
  · have hT8:T=.rsl 1 8 .u8 to:=by
      rcases hT with rfl | hT
      · rw[show vxs .nils=[]from rfl]at hto;subst hto;simp at h8
      · rw[hT,h8]
    rw[hT8]at bad good hgT hpT ⊢
    clear hT
    by_cases hs2:sp=2
    · subst hs2
      have hF:=good (by simp[hdOK,h8])
      have hfb:=hd_fb hn1 hn4
      rw[show hdB 2 to fr n (n+size)=fb n::to from rfl]at hF
      simp only[ir53,rs53,gl,hF,hpR,h8,c1,c2,c3,c4,wn,wf1,hfb,show ((8:Nat):Int)=8 from rfl,sub_zero,qdb,qai,List.length_cons,List.length_nil,Nat.reduceAdd,Nat.le_refl,Nat.reduceLeDiff,Nat.reduceLT,true_and,and_true,↓evA,evB,evs,evp,mkB,repB,blen,↓retQ,res,resAll,resOne,kill,apartOk,exp,injV,injB,pur,purs,purR,pursR,List.reduceReplicate,Nat.reduceMul,Nat.reduceSub,Nat.reduceEqDiff,Int.reduceToNat,Int.reduceLE,Int.reduceLT,Int.reduceEq,reduceCtorEq,↓reduceIte]
      refine awp_loopA (n:=115) hA [1,10,11] (by decide +kernel) (fun j:Nat=>[.int .u64 pn,.slice 6 0 1 (9+j) (9+j),.int .i64 ((n:Int)-1-(j:Int))])
        (fun j=>[.ints true .u64 roots,.dead,.dead,.dead,.cells false [.int .i64 2,.rsl 1 8 .u8 to,R],.dead,.ints false .u8 (fb n::to++nmb pn n j)]) (fun j=>j≤n) (fun j=>n-j) 0 ?_ (by omega) ?_
      · refine Hd.same ?_
        simp only[nmb,show ((0:Nat):Int)=0 from rfl,Int.sub_zero,↓evA,evB,evs,evp,mkB,repB,blen,↓retQ,res,resAll,resOne,kill,apartOk,exp,injV,injB,pur,purs,purR,pursR,List.reduceReplicate,Nat.reduceAdd,Nat.reduceMul,Nat.reduceSub,Nat.reduceEqDiff,Nat.reduceLT,Int.reduceToNat,Int.reduceLE,Int.reduceLT,Int.reduceEq,reduceCtorEq,↓reduceIte]
      intro j hj K hK
      by_cases hlt:j<n
      · have d1:(0:Int)≤(n:Int)-1-(j:Int):=by omega
        have w8:Go.IntKind.i64.wrap (8*((n:Int)-1-(j:Int)))=((8*(n-1-j):Nat):Int):=by rw[wrap_i64];omega
        have wi:Go.IntKind.i64.wrap ((n:Int)-1-(j:Int)-1)=(n:Int)-1-((j+1:Nat):Int):=by rw[wrap_i64];omega
        have hst:fb n::to++nmb pn n (j+1)=(fb n::to++nmb pn n j)++[Go.IntKind.u8.wrap (iShr .u64 pn ((8*(n-1-j):Nat):Int))]:=by rw[nmb,List.append_assoc]
        have hyl:(fb n::to++nmb pn n j).length=9+j:=by simp[h8,nmb_len];omega
        obtain⟨Y,hY⟩:∃Y,fb n::to++nmb pn n j=Y:=⟨_,rfl⟩
        rw[hY]at hst hyl
        have hst':=hst
        simp only[List.cons_append]at hY hst'
        simp only[d1,w8,wi,hY,hyl,sub_zero,qdb,qai,List.length_cons,List.length_nil,Nat.reduceAdd,Nat.le_refl,Nat.reduceLeDiff,Nat.reduceLT,true_and,and_true,↓evA,evB,evs,evp,mkB,repB,blen,↓retQ,res,resAll,resOne,kill,apartOk,exp,injV,injB,pur,purs,purR,pursR,List.reduceReplicate,Nat.reduceMul,Nat.reduceSub,Nat.reduceEqDiff,Int.reduceToNat,Int.reduceLE,Int.reduceLT,Int.reduceEq,reduceCtorEq,↓reduceIte]
        repeat(refine And.intro (by omega) ?_)
        refine⟨j+1,hK _ (by omega) (by omega),Hd.of [0,1,2,3,4,5,8] (by decide) (by decide) (by simp) ?_⟩
        simp only[hst',hgR,←Nat.add_assoc,gc,gcVs,gcV,posOf,gcH,gcB,Option.map_some,Option.map_none,List.replicate_zero,List.drop_zero,↓evA,evB,evs,evp,mkB,repB,blen,↓retQ,res,resAll,resOne,kill,apartOk,exp,injV,injB,pur,purs,purR,pursR,List.reduceReplicate,Nat.reduceAdd,Nat.reduceMul,Nat.reduceSub,Nat.reduceEqDiff,Nat.reduceLT,Int.reduceToNat,Int.reduceLE,Int.reduceLT,Int.reduceEq,reduceCtorEq,↓reduceIte]
      obtain rfl:j=n:=by omega
      have d1:¬(0:Int)≤(j:Int)-1-(j:Int):=by omega
      have hyl:(fb j::to++nmb pn j j).length=9+j:=by simp[h8,nmb_len];omega
      obtain⟨Y,hY⟩:∃Y,fb j::to++nmb pn j j=Y:=⟨_,rfl⟩
      rw[hY]at hF hyl
      simp only[List.cons_append]at hY
      have sY:sub Y 0 (9+j)=Y:=sub_zero hyl
      simp only[d1,hY,hF,sub_zero,qdb,qai,List.length_cons,List.length_nil,Nat.reduceAdd,Nat.le_refl,Nat.reduceLeDiff,Nat.reduceLT,true_and,and_true,↓evA,evB,evs,evp,mkB,repB,blen,↓retQ,res,resAll,resOne,kill,apartOk,exp,injV,injB,pur,purs,purR,pursR,List.reduceReplicate,Nat.reduceMul,Nat.reduceSub,Nat.reduceEqDiff,Int.reduceToNat,Int.reduceLE,Int.reduceLT,Int.reduceEq,reduceCtorEq,↓reduceIte]
      simp only[out,outs,out1,pur,hyl,sY,Nat.zero_add,purs,qcz,qc0,List.not_mem_nil,not_false_eq_true,true_and,and_true,Nat.reduceLeDiff,Nat.le_refl]
    have hl2:sp<2:=by omega
    by_cases hr8:fr.length=8
    · have hR8:R=.rsl 1 8 .u8 fr:=by
        rcases hR with rfl | hR
        · rw[show vxs .nils=[]from rfl]at hfr;subst hfr;simp at hr8
        · rw[hR,hr8]
      subst hR8
      obtain⟨f,hfl⟩:∃f,fbl sp n=f:=⟨_,rfl⟩
      have hF:=good (by simp[hdOK,h8,hr8];omega)
      have hz:hdZ (n+size)=[bOr .u8 64 (Go.IntKind.u8.wrap (iShr .i64 ((n+size:Nat):Int) 8)),Go.IntKind.u8.wrap ((n+size:Nat):Int)]:=rfl
      have hz1:=hd_z1 (m:=n+size) (by omega)
      have hz2:=hd_z2 (m:=n+size) (by omega)
      generalize bOr .u8 64 (Go.IntKind.u8.wrap (iShr .i64 ((n+size:Nat):Int) 8))=z1 at *
      generalize Go.IntKind.u8.wrap ((n+size:Nat):Int)=z2 at *
      by_cases hsz0:sp=0
      · subst hsz0
        have hfb:=hd_fbl (sp:=0) (.inl rfl) hn1 hn4
        rw[hfl,show (32*0:Int)=0 from rfl]at hfb
        have w0:(32*0:Int)=0:=rfl
        simp only[w0,ir53,rs53,gl,h8,hr8,hs0,hs2,hs3,hl2,c1,c2,c3,c4,wn,wm,wf1,n256,hfb,hz1,hz2,show ((8:Nat):Int)=8 from rfl,sub_zero,qdb,qai,List.length_cons,List.length_nil,Nat.reduceAdd,Nat.le_refl,Nat.reduceLeDiff,Nat.reduceLT,true_and,and_true,↓evA,evB,evs,evp,mkB,repB,blen,↓retQ,res,resAll,resOne,kill,apartOk,exp,injV,injB,pur,purs,purR,pursR,List.reduceReplicate,Nat.reduceMul,Nat.reduceSub,Nat.reduceEqDiff,Int.reduceToNat,Int.reduceLE,Int.reduceLT,Int.reduceEq,reduceCtorEq,↓reduceIte]
        have hBe:hdB 0 to fr n (n+size)=f::0::0::0::1::8::(to++8::(fr++[0,z1,z2])):=by
          simp[hdB,hdL,hfl,hz]
        have hBl:(f::0::0::0::1::8::(to++8::(fr++[0,z1,z2]))).length=26:=by simp[h8,hr8]
        obtain⟨B,hB⟩:∃B,f::0::0::0::1::8::(to++8::(fr++[0,z1,z2]))=B:=⟨_,rfl⟩
        rw[hB]at hBe hBl
        rw[hBe]at hF
        refine awp_loopA (n:=115) hA [1,10,11] (by decide +kernel) (fun j:Nat=>[.int .u64 pn,.slice 13 0 1 (26+j) (26+j),.int .i64 ((n:Int)-1-(j:Int))])
          (fun j=>[.ints true .u64 roots,.dead,.dead,.dead,.cells false [.int .i64 0,.rsl 1 8 .u8 to,.rsl 1 8 .u8 fr],.dead,.dead,.ints false .u8 [8],.dead,.dead,.ints false .u8 [0],.dead,.ints false .u8 [z1,z2],.ints false .u8 (B++nmb pn n j)]) (fun j=>j≤n) (fun j=>n-j) 0 ?_ (by omega) ?_
        · refine Hd.same ?_
          simp only[hB,nmb,List.append_nil,show ((0:Nat):Int)=0 from rfl,Int.sub_zero,↓evA,evB,evs,evp,mkB,repB,blen,↓retQ,res,resAll,resOne,kill,apartOk,exp,injV,injB,pur,purs,purR,pursR,List.reduceReplicate,Nat.reduceAdd,Nat.reduceMul,Nat.reduceSub,Nat.reduceEqDiff,Nat.reduceLT,Int.reduceToNat,Int.reduceLE,Int.reduceLT,Int.reduceEq,reduceCtorEq,↓reduceIte]
        intro j hj K hK
        by_cases hlt:j<n
        · have d1:(0:Int)≤(n:Int)-1-(j:Int):=by omega
          have w8:Go.IntKind.i64.wrap (8*((n:Int)-1-(j:Int)))=((8*(n-1-j):Nat):Int):=by rw[wrap_i64];omega
          have wi:Go.IntKind.i64.wrap ((n:Int)-1-(j:Int)-1)=(n:Int)-1-((j+1:Nat):Int):=by rw[wrap_i64];omega
          have hst:B++nmb pn n (j+1)=(B++nmb pn n j)++[Go.IntKind.u8.wrap (iShr .u64 pn ((8*(n-1-j):Nat):Int))]:=by rw[nmb,List.append_assoc]
          have hyl:(B++nmb pn n j).length=26+j:=by simp[hBl,nmb_len]
          obtain⟨Y,hY⟩:∃Y,B++nmb pn n j=Y:=⟨_,rfl⟩
          rw[hY]at hst hyl
          simp only[d1,w8,wi,hY,hyl,sub_zero,qdb,qai,List.length_cons,List.length_nil,Nat.reduceAdd,Nat.le_refl,Nat.reduceLeDiff,Nat.reduceLT,true_and,and_true,↓evA,evB,evs,evp,mkB,repB,blen,↓retQ,res,resAll,resOne,kill,apartOk,exp,injV,injB,pur,purs,purR,pursR,List.reduceReplicate,Nat.reduceMul,Nat.reduceSub,Nat.reduceEqDiff,Int.reduceToNat,Int.reduceLE,Int.reduceLT,Int.reduceEq,reduceCtorEq,↓reduceIte]
          repeat(refine And.intro (by omega) ?_)
          refine⟨j+1,hK _ (by omega) (by omega),Hd.of [0,1,2,3,4,5,6,7,8,9,10,11,12,15] (by decide) (by decide) (by simp) ?_⟩
          simp only[hst,←Nat.add_assoc,gc,gcVs,gcV,posOf,gcH,gcB,Option.map_some,Option.map_none,List.replicate_zero,List.drop_zero,↓evA,evB,evs,evp,mkB,repB,blen,↓retQ,res,resAll,resOne,kill,apartOk,exp,injV,injB,pur,purs,purR,pursR,List.reduceReplicate,Nat.reduceAdd,Nat.reduceMul,Nat.reduceSub,Nat.reduceEqDiff,Nat.reduceLT,Int.reduceToNat,Int.reduceLE,Int.reduceLT,Int.reduceEq,reduceCtorEq,↓reduceIte]
        obtain rfl:j=n:=by omega
        have d1:¬(0:Int)≤(j:Int)-1-(j:Int):=by omega
        have hyl:(B++nmb pn j j).length=26+j:=by simp[hBl,nmb_len]
        obtain⟨Y,hY⟩:∃Y,B++nmb pn j j=Y:=⟨_,rfl⟩
        rw[hY]at hF hyl
        have sY:sub Y 0 (26+j)=Y:=sub_zero hyl
        simp only[d1,hY,hF,sub_zero,qdb,qai,List.length_cons,List.length_nil,Nat.reduceAdd,Nat.le_refl,Nat.reduceLeDiff,Nat.reduceLT,true_and,and_true,↓evA,evB,evs,evp,mkB,repB,blen,↓retQ,res,resAll,resOne,kill,apartOk,exp,injV,injB,pur,purs,purR,pursR,List.reduceReplicate,Nat.reduceMul,Nat.reduceSub,Nat.reduceEqDiff,Int.reduceToNat,Int.reduceLE,Int.reduceLT,Int.reduceEq,reduceCtorEq,↓reduceIte]
        simp only[out,outs,out1,pur,hyl,sY,Nat.zero_add,purs,qcz,qc0,List.not_mem_nil,not_false_eq_true,true_and,and_true,Nat.reduceLeDiff,Nat.le_refl]
      · have hs1:sp=1:=by omega
        subst hs1
        have hfb:=hd_fbl (sp:=1) (.inr rfl) hn1 hn4
        rw[hfl]at hfb
        simp only[ir53,rs53,gl,h8,hr8,hs0,hs2,hs3,hl2,hsz0,c1,c2,c3,c4,wn,wm,wf1,n256,hfb,hz1,hz2,show ((8:Nat):Int)=8 from rfl,sub_zero,qdb,qai,List.length_cons,List.length_nil,Nat.reduceAdd,Nat.le_refl,Nat.reduceLeDiff,Nat.reduceLT,true_and,and_true,↓evA,evB,evs,evp,mkB,repB,blen,↓retQ,res,resAll,resOne,kill,apartOk,exp,injV,injB,pur,purs,purR,pursR,List.reduceReplicate,Nat.reduceMul,Nat.reduceSub,Nat.reduceEqDiff,Int.reduceToNat,Int.reduceLE,Int.reduceLT,Int.reduceEq,reduceCtorEq,↓reduceIte]
        have hBe:hdB 1 to fr n (n+size)=f::0::0::0::1::8::(to++8::(fr++[z1,z2])):=by
          simp[hdB,hdL,hfl,hz,hs2,hsz0]
        have hBl:(f::0::0::0::1::8::(to++8::(fr++[z1,z2]))).length=25:=by simp[h8,hr8]
        obtain⟨B,hB⟩:∃B,f::0::0::0::1::8::(to++8::(fr++[z1,z2]))=B:=⟨_,rfl⟩
        rw[hB]at hBe hBl
        rw[hBe]at hF
        refine awp_loopA (n:=115) hA [1,10,11] (by decide +kernel) (fun j:Nat=>[.int .u64 pn,.slice 11 0 1 (25+j) (25+j),.int .i64 ((n:Int)-1-(j:Int))])
          (fun j=>[.ints true .u64 roots,.dead,.dead,.dead,.cells false [.int .i64 1,.rsl 1 8 .u8 to,.rsl 1 8 .u8 fr],.dead,.dead,.ints false .u8 [8],.dead,.dead,.ints false .u8 [z1,z2],.ints false .u8 (B++nmb pn n j)]) (fun j=>j≤n) (fun j=>n-j) 0 ?_ (by omega) ?_
        · refine Hd.same ?_
          simp only[hB,nmb,List.append_nil,show ((0:Nat):Int)=0 from rfl,Int.sub_zero,↓evA,evB,evs,evp,mkB,repB,blen,↓retQ,res,resAll,resOne,kill,apartOk,exp,injV,injB,pur,purs,purR,pursR,List.reduceReplicate,Nat.reduceAdd,Nat.reduceMul,Nat.reduceSub,Nat.reduceEqDiff,Nat.reduceLT,Int.reduceToNat,Int.reduceLE,Int.reduceLT,Int.reduceEq,reduceCtorEq,↓reduceIte]
        intro j hj K hK
        by_cases hlt:j<n
        · have d1:(0:Int)≤(n:Int)-1-(j:Int):=by omega
          have w8:Go.IntKind.i64.wrap (8*((n:Int)-1-(j:Int)))=((8*(n-1-j):Nat):Int):=by rw[wrap_i64];omega
          have wi:Go.IntKind.i64.wrap ((n:Int)-1-(j:Int)-1)=(n:Int)-1-((j+1:Nat):Int):=by rw[wrap_i64];omega
          have hst:B++nmb pn n (j+1)=(B++nmb pn n j)++[Go.IntKind.u8.wrap (iShr .u64 pn ((8*(n-1-j):Nat):Int))]:=by rw[nmb,List.append_assoc]
          have hyl:(B++nmb pn n j).length=25+j:=by simp[hBl,nmb_len]
          obtain⟨Y,hY⟩:∃Y,B++nmb pn n j=Y:=⟨_,rfl⟩
          rw[hY]at hst hyl
          simp only[d1,w8,wi,hY,hyl,sub_zero,qdb,qai,List.length_cons,List.length_nil,Nat.reduceAdd,Nat.le_refl,Nat.reduceLeDiff,Nat.reduceLT,true_and,and_true,↓evA,evB,evs,evp,mkB,repB,blen,↓retQ,res,resAll,resOne,kill,apartOk,exp,injV,injB,pur,purs,purR,pursR,List.reduceReplicate,Nat.reduceMul,Nat.reduceSub,Nat.reduceEqDiff,Int.reduceToNat,Int.reduceLE,Int.reduceLT,Int.reduceEq,reduceCtorEq,↓reduceIte]
          repeat(refine And.intro (by omega) ?_)
          refine⟨j+1,hK _ (by omega) (by omega),Hd.of [0,1,2,3,4,5,6,7,8,9,10,13] (by decide) (by decide) (by simp) ?_⟩
          simp only[hst,←Nat.add_assoc,gc,gcVs,gcV,posOf,gcH,gcB,Option.map_some,Option.map_none,List.replicate_zero,List.drop_zero,↓evA,evB,evs,evp,mkB,repB,blen,↓retQ,res,resAll,resOne,kill,apartOk,exp,injV,injB,pur,purs,purR,pursR,List.reduceReplicate,Nat.reduceAdd,Nat.reduceMul,Nat.reduceSub,Nat.reduceEqDiff,Nat.reduceLT,Int.reduceToNat,Int.reduceLE,Int.reduceLT,Int.reduceEq,reduceCtorEq,↓reduceIte]
        obtain rfl:j=n:=by omega
        have d1:¬(0:Int)≤(j:Int)-1-(j:Int):=by omega
        have hyl:(B++nmb pn j j).length=25+j:=by simp[hBl,nmb_len]
        obtain⟨Y,hY⟩:∃Y,B++nmb pn j j=Y:=⟨_,rfl⟩
        rw[hY]at hF hyl
        have sY:sub Y 0 (25+j)=Y:=sub_zero hyl
        simp only[d1,hY,hF,sub_zero,qdb,qai,List.length_cons,List.length_nil,Nat.reduceAdd,Nat.le_refl,Nat.reduceLeDiff,Nat.reduceLT,true_and,and_true,↓evA,evB,evs,evp,mkB,repB,blen,↓retQ,res,resAll,resOne,kill,apartOk,exp,injV,injB,pur,purs,purR,pursR,List.reduceReplicate,Nat.reduceMul,Nat.reduceSub,Nat.reduceEqDiff,Int.reduceToNat,Int.reduceLE,Int.reduceLT,Int.reduceEq,reduceCtorEq,↓reduceIte]
        simp only[out,outs,out1,pur,hyl,sY,Nat.zero_add,purs,qcz,qc0,List.not_mem_nil,not_false_eq_true,true_and,and_true,Nat.reduceLeDiff,Nat.le_refl]
    · have hF:=bad (by simp[hdOK,hr8,hs2])
      rcases hR with rfl | hR
      · simp only[ir53,rs53,gl,hF,hs0,hs2,hs3,hl2,c1,c2,c3,c4,show ((8:Nat):Int)=8 from rfl,sub_zero,qdb,qai,List.length_cons,List.length_nil,Nat.reduceAdd,Nat.le_refl,Nat.reduceLeDiff,Nat.reduceLT,true_and,and_true,↓evA,evB,evs,evp,mkB,repB,blen,↓retQ,res,resAll,resOne,kill,apartOk,exp,injV,injB,pur,purs,purR,pursR,List.reduceReplicate,Nat.reduceMul,Nat.reduceSub,Nat.reduceEqDiff,Int.reduceToNat,Int.reduceLE,Int.reduceLT,Int.reduceEq,reduceCtorEq,↓reduceIte]
        simp[out,outs,out1,pur]
      · have e8:¬(fr.length:Int)=8:=by omega
        rw[hR]at hF ⊢
        simp only[ir53,rs53,gl,hF,hs0,hs2,hs3,hl2,c1,c2,c3,c4,e8,show ((8:Nat):Int)=8 from rfl,sub_zero,qdb,qai,List.length_cons,List.length_nil,Nat.reduceAdd,Nat.le_refl,Nat.reduceLeDiff,Nat.reduceLT,true_and,and_true,↓evA,evB,evs,evp,mkB,repB,blen,↓retQ,res,resAll,resOne,kill,apartOk,exp,injV,injB,pur,purs,purR,pursR,List.reduceReplicate,Nat.reduceMul,Nat.reduceSub,Nat.reduceEqDiff,Int.reduceToNat,Int.reduceLE,Int.reduceLT,Int.reduceEq,reduceCtorEq,↓reduceIte]
        simp[out,outs,out1,pur]
  · have hF:=bad (by simp[hdOK,h8])
    rcases hT with rfl | hT
    · simp only[ir53,rs53,gl,hF,hpR,hs0,hs3,sub_zero,qdb,qai,List.length_cons,List.length_nil,Nat.reduceAdd,Nat.le_refl,Nat.reduceLeDiff,Nat.reduceLT,true_and,and_true,↓evA,evB,evs,evp,mkB,repB,blen,↓retQ,res,resAll,resOne,kill,apartOk,exp,injV,injB,pur,purs,purR,pursR,List.reduceReplicate,Nat.reduceMul,Nat.reduceSub,Nat.reduceEqDiff,Int.reduceToNat,Int.reduceLE,Int.reduceLT,Int.reduceEq,reduceCtorEq,↓reduceIte]
      simp[out,outs,out1,pur]
    · have e8:¬(to.length:Int)=8:=by omega
      rw[hT]at hF hpT ⊢
      simp only[ir53,rs53,gl,hF,hpR,hs0,hs3,e8,sub_zero,qdb,qai,List.length_cons,List.length_nil,Nat.reduceAdd,Nat.le_refl,Nat.reduceLeDiff,Nat.reduceLT,true_and,and_true,↓evA,evB,evs,evp,mkB,repB,blen,↓retQ,res,resAll,resOne,kill,apartOk,exp,injV,injB,pur,purs,purR,pursR,List.reduceReplicate,Nat.reduceMul,Nat.reduceSub,Nat.reduceEqDiff,Int.reduceToNat,Int.reduceLE,Int.reduceLT,Int.reduceEq,reduceCtorEq,↓reduceIte]
      simp[out,outs,out1,pur]
end Am
set_option maxRecDepth 20000
namespace Am
open Go.Proofs
end Am
set_option maxRecDepth 20000
namespace Am
open Go.Proofs
/-- A nonce's bytes, from the last one on. -/
def nonZ (pn:Int) (s:List Int) (i:Nat):List Int:=s.set (11-i) (bXor .u8 (getI s (11-i)) (Go.IntKind.u8.wrap (iShr .u64 pn ((8*i:Nat):Int))))
theorem nonZ_len {pn:Int} {s:List Int} (n:Nat):(itr (nonZ pn) s n).length=s.length :=
  itr_inv (fun _ (t:List Int)=>t.length=s.length) rfl (fun n t ht=>by simp[nonZ,ht]) n
theorem nonS_len {pn:Int} {s:List Int} (n:Nat):(itr (nonS pn) s n).length=s.length :=
  itr_inv (fun _ (t:List Int)=>t.length=s.length) rfl (fun n t ht=>by simp[nonS,ht]) n
theorem nonS_get {pn:Int} {s:List Int} (hs:s.length=12):∀n,n≤8→∀j,getI (itr (nonS pn) s n) j=if 4≤j∧j<4+n then bXor .u8 (getI s j) (Go.IntKind.u8.wrap (iShr .u64 pn ((56-8*(j-4):Nat):Int)))else getI s j
  | 0,_,j=>by rw[if_neg (by omega)];rfl
  | n+1,h,j=>by
    have hl:=nonS_len (pn:=pn) (s:=s) n
    have e:itr (nonS pn) s (n+1)=nonS pn (itr (nonS pn) s n) n:=rfl
    have g1:getI (itr (nonS pn) s n) (4+n)=getI s (4+n):=by rw[nonS_get hs n (by omega) (4+n),if_neg (by omega)]
    rw[e,nonS,getI_sv (by omega),g1,nonS_get hs n (by omega) j]
    by_cases hj:4+n=j
    · rw[if_pos hj,if_pos (by omega),←hj,Nat.add_sub_cancel_left]
    · rw[if_neg hj]
      by_cases h2:4≤j∧j<4+n
      · rw[if_pos h2,if_pos (by omega)]
      · rw[if_neg h2,if_neg (by omega)]
theorem nonZ_get {pn:Int} {s:List Int} (hs:s.length=12):∀n,n≤8→∀j,getI (itr (nonZ pn) s n) j=if 12-n≤j∧j<12 then bXor .u8 (getI s j) (Go.IntKind.u8.wrap (iShr .u64 pn ((8*(11-j):Nat):Int)))else getI s j
  | 0,_,j=>by rw[if_neg (by omega)];rfl
  | n+1,h,j=>by
    have hl:=nonZ_len (pn:=pn) (s:=s) n
    have e:itr (nonZ pn) s (n+1)=nonZ pn (itr (nonZ pn) s n) n:=rfl
    have g1:getI (itr (nonZ pn) s n) (11-n)=getI s (11-n):=by rw[nonZ_get hs n (by omega) (11-n),if_neg (by omega)]
    rw[e,nonZ,getI_sv (by omega),g1,nonZ_get hs n (by omega) j]
    by_cases hj:11-n=j
    · rw[if_pos hj,if_pos (by omega),←hj,show 11-(11-n)=n by omega]
    · rw[if_neg hj]
      by_cases h2:12-n≤j∧j<12
      · rw[if_pos h2,if_pos (by omega)]
      · rw[if_neg h2,if_neg (by omega)]
theorem nonZ_eq {k:List Int} (hk:k.length=44) (pn:Int):itr (nonZ pn) (sub k 16 12) 8=nonF k pn:=by
  have hs:(sub k 16 12).length=12:=by simp[sub,hk]
  unfold nonF
  refine getI_ext (by rw[nonZ_len,nonS_len]) fun j hj=>?_
  rw[nonZ_len,hs]at hj
  rw[nonZ_get hs 8 (by decide),nonS_get hs 8 (by decide)]
  by_cases h:4≤j
  · rw[if_pos (by omega),if_pos (by omega),show 8*(11-j)=56-8*(j-4) by omega]
  · rw[if_neg (by omega),if_neg (by omega)]
end Am
