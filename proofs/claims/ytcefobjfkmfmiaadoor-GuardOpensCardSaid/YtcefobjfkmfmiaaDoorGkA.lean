/-
Working texts: contracts of functions, and the numbers behind them.
-/
import Derived.Test.YtcefobjfkmfmiaaDoorShG
import Derived.Test.YtcefobjfkmfmiaaDoorIrE
import Derived.Test.YtcefobjfkmfmiaaDoorGeA
import Derived.Test.YtcefobjfkmfmiaaDoorAeR
set_option linter.unusedSimpArgs false
set_option linter.unusedVariables false
set_option linter.unusedSectionVars false
set_option maxRecDepth 20000
namespace Am
open Go.Proofs
/-! ### A secret's keys, the first secrets -/
theorem exps1_dig {s info:List Int}:∀i,Dig 256 (exps s info i).1
  | 0=>fun x hx=>absurd hx (by simp[exps])
  | i+1=>by rw[exps];exact Dig.append (exps1_dig i) (hmac_dig _ _)
theorem expand_dig (s info:List Int) (n:Nat):Dig 256 (expand s info n):=(exps1_dig _).take n
def lkey:List Int:=[113,117,105,99,32,107,101,121]
def lnon:List Int:=[113,117,105,99,32,105,118]
def lmsk:List Int:=[113,117,105,99,32,104,112]
def ex (s l:List Int) (n:Nat):List Int:=expand s (labinfo l [] n) n
def gkeys (s:List Int):List Int:=ex s lkey 16++(ex s lnon 12++ex s lmsk 16)
theorem lit_dig {l:List Int} (h:l.all (fun x=>decide (0≤x∧x<256))=true):Dig 256 l:=fun x hx=>of_decide_eq_true (List.all_eq_true.1 h x hx)
theorem ex_dig {s l:List Int} {n:Nat}:(ex s l n).length=n:=expand_len _ _ _
def Sec (s:List Int):Prop:=s.length=32∧Dig 256 s
def preSec (ds:List D):Prop:=∃s:List Int,ds=[.v (.ints .u8 s)]∧Sec s
theorem q_lab {s l:List Int} (h:Sec s) (hl:Dig 256 l) (n:Int):pre38 [.v (.ints .u8 s),.v (.str l),.s .u8 [],.v (.int .i64 n)]:=⟨s,l,[],n,rfl,h.2,h.1,hl,fun x hx=>by simp at hx⟩
def F13:List D→Out
  | [.v (.ints _ s)]=>.one (.v (.ints .u8 (gkeys s)))
  | _=>bad
def s13:Summ:=sData [.v] preSec F13
theorem ok13 {g:List Blk} [Ge gl g]:SumOK Tryd.prog g 13 s13∧SumAbs s13:=by
  refine fsumA (l:=[(38,s38)]) mixed gl_plain rfl Tryd.func13 comp13 compR13 nt13 (by simp only[List.mem_cons,List.not_mem_nil,or_false,forall_eq];exact ok38) fun ds ⟨s,hd,hs⟩ hA=>?_
  subst hd
  have hsl:=hs.1
  have ss:sub s 0 32=s:=sub_zero hsl
  have q1:=q_lab (l:=lkey) hs (lit_dig rfl) 16
  have q2:=q_lab (l:=lnon) hs (lit_dig rfl) 12
  have q3:=q_lab (l:=lmsk) hs (lit_dig rfl) 16
  have n1:¬Lng lkey []:=by decide
  have n2:¬Lng lnon []:=by decide
  have n3:¬Lng lmsk []:=by decide
  have t16:(16:Int).toNat=16:=rfl
  have t12:(12:Int).toNat=12:=rfl
  obtain⟨A,hA1⟩:∃A,expand s (labinfo lkey [] 16) 16=A:=⟨_,rfl⟩
  obtain⟨B,hB⟩:∃A,expand s (labinfo lnon [] 12) 12=A:=⟨_,rfl⟩
  obtain⟨C,hC⟩:∃A,expand s (labinfo lmsk [] 16) 16=A:=⟨_,rfl⟩
  have hG:gkeys s=A++(B++C):=by rw[←hA1,←hB,←hC];rfl
  have lA:A.length=16:=by rw[←hA1,expand_len]
  have lB:B.length=12:=by rw[←hB,expand_len]
  have lC:C.length=16:=by rw[←hC,expand_len]
  have sA:sub A 0 16=A:=sub_zero lA
  have sB:sub B 0 12=B:=sub_zero lB
  have sC:sub C 0 16=C:=sub_zero lC
  simp only[lkey,lnon,lmsk]at q1 q2 q3 n1 n2 n3 hA1 hB hC
  have tA:A.take 16=A:=List.take_of_length_le (by omega)
  have tB:B.take 12=B:=List.take_of_length_le (by omega)
  have tC:C.take 16=C:=List.take_of_length_le (by omega)
  have e1:spl (List.replicate 44 0) 0 A=A++List.replicate 28 0:=by
    simp[spl,lA]
  have e2:spl (A++List.replicate 28 0) 16 B=A++(B++List.replicate 16 0):=by
    simp[spl,lA,lB,List.take_append,List.drop_append]
  have e3:spl (A++(B++List.replicate 16 0)) 28 C=A++(B++C):=by
    simp[spl,lA,lB,lC,List.take_append,List.drop_append]
    rw[List.drop_of_length_le (by omega:A.length≤44),List.drop_of_length_le (by omega:B.length≤28)];simp
    exact List.take_of_length_le (by omega)
  have lG:(A++(B++C)).length=44:=by simp[lA,lB,lC]
  have sG:sub (A++(B++C)) 0 44=A++(B++C):=sub_zero lG
  have pG:spl (List.replicate 44 0) 0 (A++(B++C))=A++(B++C):=qdb (by simp[lA,lB,lC])
  simp only[List.reduceReplicate]at e1 e2 e3 pG
  simp only[s38]
  simp only[ir13,rs13,gl,F13,F60,hsl,ss,q1,q2,q3,n1,n2,n3,t16,t12,hA1,hB,hC,hG,lA,lB,lC,sA,sB,sC,tA,tB,tC,e1,e2,e3,lG,sG,pG,or_self,Nat.min_self,s38,F38,sub_zero,qdb,qai,List.length_cons,List.length_nil,Nat.reduceAdd,Nat.le_refl,Nat.reduceLeDiff,Nat.reduceLT,true_and,and_true,↓evA,evB,evs,evp,mkB,repB,blen,↓retQ,res,resAll,resOne,kill,apartOk,exp,injV,injB,pur,purs,purR,pursR,List.reduceReplicate,Nat.reduceMul,Nat.reduceSub,Nat.reduceEqDiff,Int.reduceToNat,Int.reduceLE,Int.reduceLT,Int.reduceEq,reduceCtorEq,↓reduceIte]
  repeat(refine And.intro (by omega) ?_)
  simp only[out,outs,out1,pur,and_self]
def lci:List Int:=[99,108,105,101,110,116,32,105,110]
def lsi:List Int:=[115,101,114,118,101,114,32,105,110]
def salt:List Int:=[0x38,0x76,0x2c,0xf7,0xf5,0x59,0x34,0xb3,0x4d,0x17,0x9a,0xe6,0xa4,0xc8,0x0c,0xad,0xcc,0xbb,0x7f,0x0a]
def preId (ds:List D):Prop:=∃b:List Int,ds=[.s .u8 b]∧Dig 256 b∧b.length≤549755813888
def F14:List D→Out
  | [.s _ b]=>.many [.v (.ints .u8 (ex (hmac salt b) lci 32)),.v (.ints .u8 (ex (hmac salt b) lsi 32))]
  | _=>bad
def s14:Summ:=sData [.s .u8] preId F14
theorem ok14 {g:List Blk} [Ge gl g]:SumOK Tryd.prog g 14 s14∧SumAbs s14:=by
  refine fsumA (l:=[(39,s39),(40,s40)]) mixed gl_plain rfl Tryd.func14 comp14 compR14 nt14 (by simp only[List.mem_cons,List.not_mem_nil,or_false,forall_eq_or_imp,forall_eq];exact⟨ok39,ok40⟩) fun ds ⟨b,hd,hb,hbl⟩ hA=>?_
  subst hd
  have sb:=qdd b
  have q1:pre39 [.s .u8 salt,.s .u8 b]:=⟨_,_,rfl,lit_dig rfl,by decide,hb,hbl⟩
  have hm:(hmac salt b).length=32∧Dig 256 (hmac salt b):=⟨hmac_len _ _,hmac_dig _ _⟩
  obtain⟨s,hs⟩:∃s,hmac salt b=s:=⟨_,rfl⟩
  rw[hs]at hm
  have hsl:=hm.1
  have ss:sub s 0 32=s:=sub_zero hsl
  have ps:spl [0,0,0,0,0,0,0,0,0,0,0,0,0,0,0,0,0,0,0,0,0,0,0,0,0,0,0,0,0,0,0,0] 0 s=s:=qdb (by simp[hsl])
  have q2:pre40 [.v (.ints .u8 s),.v (.str lci),.s .u8 []]:=⟨_,_,_,rfl,hm.2,hsl,lit_dig rfl,fun x hx=>by simp at hx⟩
  have q3:pre40 [.v (.ints .u8 s),.v (.str lsi),.s .u8 []]:=⟨_,_,_,rfl,hm.2,hsl,lit_dig rfl,fun x hx=>by simp at hx⟩
  have k1:labkey s lci []=ex s lci 32:=by rw[labkey,if_neg (by decide)];rfl
  have k2:labkey s lsi []=ex s lsi 32:=by rw[labkey,if_neg (by decide)];rfl
  obtain⟨A,hA1⟩:∃A,ex s lci 32=A:=⟨_,rfl⟩
  obtain⟨B,hB⟩:∃A,ex s lsi 32=A:=⟨_,rfl⟩
  have lA:A.length=32:=by rw[←hA1,ex_dig]
  have lB:B.length=32:=by rw[←hB,ex_dig]
  have pA:spl [0,0,0,0,0,0,0,0,0,0,0,0,0,0,0,0,0,0,0,0,0,0,0,0,0,0,0,0,0,0,0,0] 0 A=A:=qdb (by simp[lA])
  have pB:spl [0,0,0,0,0,0,0,0,0,0,0,0,0,0,0,0,0,0,0,0,0,0,0,0,0,0,0,0,0,0,0,0] 0 B=B:=qdb (by simp[lB])
  have sA:sub A 0 32=A:=sub_zero lA
  have sB:sub B 0 32=B:=sub_zero lB
  rw[hA1]at k1
  rw[hB]at k2
  have hF:F14 [.s .u8 b]=.many [.v (.ints .u8 A),.v (.ints .u8 B)]:=by
    show Out.many [.v (.ints .u8 (ex (hmac salt b) lci 32)),.v (.ints .u8 (ex (hmac salt b) lsi 32))]=_
    rw[hs,hA1,hB]
  have ssalt:sub salt 0 20=salt:=rfl
  simp only[salt]at q1 hs ssalt
  simp only[lci,lsi]at q2 q3 k1 k2
  simp only[s39,s40]
  simp only[ir14,rs14,gl,hF,q1,hs,hsl,ss,ps,q2,q3,k1,k2,sb,pA,pB,sA,sB,lA,lB,ssalt,s39,s40,F39,F40,sub_zero,qdb,qai,List.length_cons,List.length_nil,Nat.reduceAdd,Nat.le_refl,Nat.reduceLeDiff,Nat.reduceLT,true_and,and_true,↓evA,evB,evs,evp,mkB,repB,blen,↓retQ,res,resAll,resOne,kill,apartOk,exp,injV,injB,pur,purs,purR,pursR,List.reduceReplicate,Nat.reduceMul,Nat.reduceSub,Nat.reduceEqDiff,Int.reduceToNat,Int.reduceLE,Int.reduceLT,Int.reduceEq,reduceCtorEq,↓reduceIte]
  repeat(refine And.intro (by omega) ?_)
  simp only[out,outs,out1,pur,and_self]
end Am
set_option maxRecDepth 20000
namespace Am
open Go.Proofs
/-! ### The example of the chapter -/
def idx:List Int:=[0x83,0x94,0xc8,0xf0,0x3e,0x51,0x57,0x08]
theorem aw13:(getI (gkeys (ex (hmac salt idx) lci 32)) 0=31∧getI (gkeys (ex (hmac salt idx) lci 32)) 1=54∧getI (gkeys (ex (hmac salt idx) lci 32)) 15=45)∧getI (gkeys (ex (hmac salt idx) lci 32)) 16=250∧getI (gkeys (ex (hmac salt idx) lci 32)) 28=159:=by decide +kernel
theorem gkeys_len (s:List Int):(gkeys s).length=44:=by simp[gkeys,ex_dig]
theorem exps_dig' (s l:List Int) (n:Nat):Dig 256 (ex s l n):=by
  exact expand_dig _ _ _
def FTrue:List D→Out
  | _=>.one (.v (.bool true))
def F12:List D→Out
  | _=>.one (.v (.bool true))
def pre12 (ds:List D):Prop:=ds=[]
def s12:Summ:=sData [] pre12 F12
set_option maxHeartbeats 2000000 in
theorem ok12 {g:List Blk} [Ge gl g]:SumOK Tryd.prog g 12 s12∧SumAbs s12:=by
  refine fsumA (l:=[(14,s14),(13,s13)]) mixed gl_plain rfl Tryd.func12 comp12 compR12 nt12 (by simp only[List.mem_cons,List.not_mem_nil,or_false,forall_eq_or_imp,forall_eq];exact⟨ok14,ok13⟩) fun ds hd hA=>?_
  rw[hd]
  have q1:preId [.s .u8 idx]:=⟨_,rfl,lit_dig rfl,by decide⟩
  have sI:sub idx 0 8=idx:=rfl
  obtain⟨⟨a1,a2,a3⟩,a4,a5⟩:=aw13
  obtain⟨A,hA1⟩:∃A,ex (hmac salt idx) lci 32=A:=⟨_,rfl⟩
  obtain⟨B,hB⟩:∃A,ex (hmac salt idx) lsi 32=A:=⟨_,rfl⟩
  have lA:A.length=32:=by rw[←hA1,ex_dig]
  have dA:Dig 256 A:=by rw[←hA1];exact exps_dig' _ _ _
  have lB:B.length=32:=by rw[←hB,ex_dig]
  rw[hA1]at a1 a2 a3 a4 a5
  obtain⟨G,hG⟩:∃G,gkeys A=G:=⟨_,rfl⟩
  have lG:G.length=44:=by rw[←hG,gkeys_len]
  rw[hG]at a1 a2 a3 a4 a5
  have q2:preSec [.v (.ints .u8 A)]:=⟨_,rfl,lA,dA⟩
  have pA:spl [0,0,0,0,0,0,0,0,0,0,0,0,0,0,0,0,0,0,0,0,0,0,0,0,0,0,0,0,0,0,0,0] 0 A=A:=qdb (by simp[lA])
  have pB:spl [0,0,0,0,0,0,0,0,0,0,0,0,0,0,0,0,0,0,0,0,0,0,0,0,0,0,0,0,0,0,0,0] 0 B=B:=qdb (by simp[lB])
  have sA:sub A 0 32=A:=sub_zero lA
  have pG:spl (List.replicate 44 0) 0 G=G:=qdb (by simp[lG])
  have hF:F14 [.s .u8 idx]=.many [.v (.ints .u8 A),.v (.ints .u8 B)]:=by
    show Out.many [.v (.ints .u8 (ex (hmac salt idx) lci 32)),.v (.ints .u8 (ex (hmac salt idx) lsi 32))]=_
    rw[hA1,hB]
  have hF2:F13 [.v (.ints .u8 A)]=.one (.v (.ints .u8 G)):=by
    show Out.one (.v (.ints .u8 (gkeys A)))=_
    rw[hG]
  simp only[idx]at q1 sI hF
  simp only[List.reduceReplicate]at pG
  simp only[s14,s13]
  simp only[ir12,rs12,gl,F12,q1,sI,hF,q2,hF2,lA,lB,lG,pA,pB,sA,pG,a1,a2,a3,a4,a5,sub_zero,qdb,qai,List.length_cons,List.length_nil,Nat.reduceAdd,Nat.le_refl,Nat.reduceLeDiff,Nat.reduceLT,true_and,and_true,↓evA,evB,evs,evp,mkB,repB,blen,↓retQ,res,resAll,resOne,kill,apartOk,exp,injV,injB,pur,purs,purR,pursR,List.reduceReplicate,Nat.reduceMul,Nat.reduceSub,Nat.reduceEqDiff,Int.reduceToNat,Int.reduceLE,Int.reduceLT,Int.reduceEq,reduceCtorEq,↓reduceIte]
  repeat(refine And.intro (by omega) ?_)
  simp only[out,outs,out1,pur,and_self]
end Am
set_option maxRecDepth 20000
namespace Am
open Go.Proofs
theorem z_sRT {shs:List Sh} {pre:List D→Prop} {F:List D→RT} {vs:List V} {hp:List Blk} {K:Ef→Prop}:sRT shs pre F vs hp K=rds hp shs vs fun ds=>@Wi (List D) ⟨fun ds=>pre ds∧@Wi RT ⟨fun o=>@Wi Ef ⟨K⟩ (expT hp.length o)⟩ (F ds)⟩ ds:=by
  simp only[qaa];rw[sRT]
/-! ### A law's case -/
theorem injV_cs (r:List D) (n:Nat):∀s:List Int,injV (s.map (fun x=>D.v (.int .u8 x))++r) n=s.map (V.int .u8)++injV r n
  | []=>rfl
  | x::s=>by simp only[List.map_cons,List.cons_append,injV,injV_cs r n s]
theorem injB_cs (ro:Bool) (r:List D):∀s:List Int,injB ro (s.map (fun x=>D.v (.int .u8 x))++r)=injB ro r
  | []=>rfl
  | x::s=>by simp only[List.map_cons,List.cons_append,injB,injB_cs ro r s]
def caseG:List (Nat×(List D→Prop)):=[(32,DArr 32 .u8),(1,DInt .i64),(1,DSl .u8),(1,DSl .u8),(1,DInt .u64),(1,DInt .u64),(1,DBool),(1,DSl .u8)]
theorem case_of {C:List D} (h:Dm caseG C):∃(s to fr b:List Int) (sp:Int) (pn ac:Nat) (r:Bool),C=s.map (fun x=>D.v (.int .u8 x))++[.v (.int .i64 sp),.s .u8 to,.s .u8 fr,.v (.int .u64 (pn:Int)),.v (.int .u64 (ac:Int)),.v (.bool r),.s .u8 b] ∧
    Sec s∧(-9223372036854775808≤sp∧sp<9223372036854775808)∧Dig 256 to∧Dig 256 fr∧pn<18446744073709551616∧ac<18446744073709551616∧Dig 256 b:=by
  obtain⟨a0,t0,rfl,-,⟨s,rfl,hs,hsw⟩,a1,t1,rfl,-,⟨sp,rfl,hspw⟩,a2,t2,rfl,-,⟨to,rfl,hto,-⟩,a3,t3,rfl,-,⟨fr,rfl,hfr,-⟩,a4,t4,rfl,-,⟨pn,rfl,hpn⟩,a5,t5,rfl,-,⟨ac,rfl,hac⟩,a6,t6,rfl,-,⟨r,rfl⟩,a7,t7,rfl,-,⟨b,rfl,hb,-⟩,rfl⟩:=h
  have p1:=wf_u64 hpn
  have p2:=wf_u64 hac
  obtain⟨pn,rfl⟩:=Int.eq_ofNat_of_zero_le p1.1
  obtain⟨ac,rfl⟩:=Int.eq_ofNat_of_zero_le p2.1
  exact⟨s,to,fr,b,sp,pn,ac,r,rfl,⟨hs,dig_u8 hsw⟩,wf_i64 hspw,dig_u8 hto,dig_u8 hfr,by omega,by omega,dig_u8 hb⟩
theorem allI_app (k:Go.IntKind) (l:List V):∀s:List Int,allI k (s.map (V.int k)++l)=(allI k l).map (s++·)
  | []=>by cases h:allI k l<;>simp[h]
  | x::s=>by
    have ih:=allI_app k l s
    simp only[List.map_cons,List.cons_append,allI,ih]
    cases h:allI k l<;>simp[h]
theorem agI_cs {s:List Int} (hs:s.length=32) {l:List V} (h:allI .u8 l=none):agI (cs s l)=.agg (cs s l):=by
  cases s with
  | nil=>simp at hs
  | cons x s =>
    have:=allI_app .u8 l (x::s)
    rw[h]at this
    unfold cs
    simp only[List.map_cons,List.cons_append]at this ⊢
    unfold agI
    simp only[this,Option.map_none]
theorem frzs_map (f:V→(V→Prop)→Prop) (hf:∀x K,f (.int .u8 x) K=K (.int .u8 x)) (l:List V):∀(s:List Int) (K:List V→Prop),frzs f (s.map (V.int .u8)++l) K=frzs f l fun r=>K (s.map (V.int .u8)++r)
  | [],K=>rfl
  | x::s,K=>by
    simp only[List.map_cons,List.cons_append,frzs,hf,frzs_map f hf l s]
theorem pursR_cs (s:List Int) (l:List V):pursR (cs s l)=pursR l:=by
  unfold cs
  induction s with
  | nil=>rfl
  | cons x s ih=>simp only[List.map_cons,List.cons_append,pursR,purR,Bool.true_and,ih]
theorem purs_cs {to fr b:List Int} {s:List Int} {sp pn ac:Int} {r:Bool}:pursR (cs s [.int .i64 sp,.slice 4 0 1 to.length to.length,.slice 5 0 1 fr.length fr.length,.int .u64 pn,.int .u64 ac,.bool r,.slice 6 0 1 b.length b.length])=false:=by
  rw[pursR_cs];rfl
theorem frzs_cs {to fr b:List Int} {hp:List Blk} {s:List Int} {sp pn ac:Int} {r:Bool} {K:List V→Prop} (h1:nthB hp 4=.ints true .u8 to) (h2:nthB hp 5=.ints true .u8 fr) (h3:nthB hp 6=.ints true .u8 b) :
    frzs (frz hp 3) (cs s [.int .i64 sp,.slice 4 0 1 to.length to.length,.slice 5 0 1 fr.length fr.length,.int .u64 pn,.int .u64 ac,.bool r,.slice 6 0 1 b.length b.length]) K =
      K (cs s [.int .i64 sp,.rsl 1 to.length .u8 to,.rsl 1 fr.length .u8 fr,.int .u64 pn,.int .u64 ac,.bool r,.rsl 1 b.length .u8 b]):=by
  have s1:=qdd to
  have s2:=qdd fr
  have s3:=qdd b
  unfold cs
  rw[frzs_map _ (fun x K=>by simp[frz,purR])]
  simp[frzs,frz,h1,h2,h3,purR,s1,s2,s3]
end Am
set_option maxRecDepth 20000
namespace Am
open Go.Proofs
/-! ### What is opened, whatever it is -/
def opBad (l:Nat) (a e:Int):Bool:=decide (a<1)||decide ((l:Int)<e)||decide (e<a)||decide (e-a<20)
def opnR (k b:List Int) (a e:Int) (x:Nat):Nat×List Int×Int :=
  if opBad b.length a e then (0,[],3)
  else if opnB (sub k 0 16) (nonF k (opP k b a.toNat e.toNat x)) (opH k b a.toNat e.toNat) (opT k b a.toNat e.toNat)=true then
    if rst (opD k b a.toNat e.toNat)=0 then (opP k b a.toNat e.toNat x,opnS (sub k 0 16) (nonF k (opP k b a.toNat e.toNat x)) (opH k b a.toNat e.toNat) (opT k b a.toNat e.toNat),0)else (0,[],5)
  else (0,[],11)
def preOp (ds:List D):Prop:=∃(k b:List Int) (a e:Int) (x:Nat),ds=[.v (.ints .u8 k),.s .u8 b,.v (.int .i64 a),.v (.int .i64 e),.v (.int .u64 (x:Int))] ∧
  K44 k∧Dig 256 b∧b.length≤1000000∧x<4611686018427387904
def FOp:List D→Out
  | [.v (.ints _ k),.s _ b,.v (.int _ a),.v (.int _ e),.v (.int _ x)]=>.many [.v (.int .u64 ((opnR k b a e x.toNat).1:Nat)),.s .u8 (opnR k b a e x.toNat).2.1,.v (.int .i64 (opnR k b a e x.toNat).2.2)]
  | _=>bad
def sOp:Summ:=sData [.v,.s .u8,.v,.v,.v] preOp FOp
set_option maxHeartbeats 8000000 in
theorem okOp {g:List Blk} [Ge gl g]:SumOK Tryd.prog g 36 sOp∧SumAbs sOp:=by
  refine fsumA (l:=[(51,s51),(57,s57),(50,s50),(58,s58)]) mixed gl_plain rfl Tryd.func36 comp36 compR36 nt36 (by simp only[List.mem_cons,List.not_mem_nil,or_false,forall_eq_or_imp,forall_eq];exact⟨ok51,ok57,ok50,ok58⟩) fun ds ⟨k,b,a,e,x,hd,hk,hb,hbl,hx⟩ hA=>?_
  subst hd
  have hkl:=hk.1
  have hF:FOp [.v (.ints .u8 k),.s .u8 b,.v (.int .i64 a),.v (.int .i64 e),.v (.int .u64 (x:Int))]=.many [.v (.int .u64 ((opnR k b a e x).1:Nat)),.s .u8 (opnR k b a e x).2.1,.v (.int .i64 (opnR k b a e x).2.2)]:=rfl
  have bad:∀h:opBad b.length a e=true,FOp [.v (.ints .u8 k),.s .u8 b,.v (.int .i64 a),.v (.int .i64 e),.v (.int .u64 (x:Int))]=.many [.v (.int .u64 0),.s .u8 [],.v (.int .i64 3)]:=fun h=>by
    rw[hF,opnR,if_pos h];rfl
  by_cases c1:a<1
  · have hF:=bad (by simp[opBad,c1])
    simp only[ir36,rs36,gl,hF,c1,sub_zero,qdb,qai,List.length_cons,List.length_nil,Nat.reduceAdd,Nat.le_refl,Nat.reduceLeDiff,Nat.reduceLT,true_and,and_true,↓evA,evB,evs,evp,mkB,repB,blen,↓retQ,res,resAll,resOne,kill,apartOk,exp,injV,injB,pur,purs,purR,pursR,List.reduceReplicate,Nat.reduceMul,Nat.reduceSub,Nat.reduceEqDiff,Int.reduceToNat,Int.reduceLE,Int.reduceLT,Int.reduceEq,reduceCtorEq,↓reduceIte]
    simp[out,outs,out1,pur]
  by_cases c2:(b.length:Int)<e
  · have hF:=bad (by simp[opBad,c2])
    simp only[ir36,rs36,gl,hF,c1,c2,sub_zero,qdb,qai,List.length_cons,List.length_nil,Nat.reduceAdd,Nat.le_refl,Nat.reduceLeDiff,Nat.reduceLT,true_and,and_true,↓evA,evB,evs,evp,mkB,repB,blen,↓retQ,res,resAll,resOne,kill,apartOk,exp,injV,injB,pur,purs,purR,pursR,List.reduceReplicate,Nat.reduceMul,Nat.reduceSub,Nat.reduceEqDiff,Int.reduceToNat,Int.reduceLE,Int.reduceLT,Int.reduceEq,reduceCtorEq,↓reduceIte]
    simp[out,outs,out1,pur]
  by_cases c3:e<a
  · have hF:=bad (by simp[opBad,c3])
    simp only[ir36,rs36,gl,hF,c1,c2,c3,sub_zero,qdb,qai,List.length_cons,List.length_nil,Nat.reduceAdd,Nat.le_refl,Nat.reduceLeDiff,Nat.reduceLT,true_and,and_true,↓evA,evB,evs,evp,mkB,repB,blen,↓retQ,res,resAll,resOne,kill,apartOk,exp,injV,injB,pur,purs,purR,pursR,List.reduceReplicate,Nat.reduceMul,Nat.reduceSub,Nat.reduceEqDiff,Int.reduceToNat,Int.reduceLE,Int.reduceLT,Int.reduceEq,reduceCtorEq,↓reduceIte]
    simp[out,outs,out1,pur]
  have we:Go.IntKind.i64.wrap (e-a)=e-a:=by rw[wrap_i64];omega
  by_cases c4:e-a<20
  · have hF:=bad (by simp[opBad,c4])
    simp only[ir36,rs36,gl,hF,c1,c2,c3,we,c4,sub_zero,qdb,qai,List.length_cons,List.length_nil,Nat.reduceAdd,Nat.le_refl,Nat.reduceLeDiff,Nat.reduceLT,true_and,and_true,↓evA,evB,evs,evp,mkB,repB,blen,↓retQ,res,resAll,resOne,kill,apartOk,exp,injV,injB,pur,purs,purR,pursR,List.reduceReplicate,Nat.reduceMul,Nat.reduceSub,Nat.reduceEqDiff,Int.reduceToNat,Int.reduceLE,Int.reduceLT,Int.reduceEq,reduceCtorEq,↓reduceIte]
    simp[out,outs,out1,pur]
  have nb:opBad b.length a e=false:=by simp[opBad,c1,c2,c3,c4]
  obtain⟨r,hrr⟩:∃r,opnR k b a e x=r:=⟨_,rfl⟩
  rw[hrr]at hF
  rw[opnR,if_neg (by rw[nb];decide)]at hrr
  clear bad
  obtain⟨a,rfl⟩:=Int.eq_ofNat_of_zero_le (show 0≤a by omega)
  obtain⟨e,rfl⟩:=Int.eq_ofNat_of_zero_le (show 0≤e by omega)
  have ha:1≤a:=by omega
  have hae:a+20≤e:=by omega
  have heb:e≤b.length:=by omega
  have we:Go.IntKind.i64.wrap ((e:Int)-(a:Int))=((e-a:Nat):Int):=by rw[wrap_i64];omega
  have c4:¬((e-a:Nat):Int)<20:=by omega
  simp only[Int.ofNat_eq_natCast,Int.toNat_natCast]at hF hrr c1 c2 c3 ⊢
  have hcl:(sub b 0 e).length=e:=by simp[sub];omega
  have hcd:Dig 256 (sub b 0 e):=sub_dig' hb
  have q1:preHid [.v (.ints .u8 k),.w .u8 (sub b 0 e),.v (.int .i64 (a:Int)),.v (.bool true)]:=⟨k,_,a,true,rfl,hk,hcd,ha,by omega,by omega⟩
  have f1:F51 [.v (.ints .u8 k),.w .u8 (sub b 0 e),.v (.int .i64 (a:Int)),.v (.bool true)]=([[.v (.ints .u8 (opD k b a e))]],.one (.v (.int .i64 (opN k b a e:Int)))):=rfl
  have hDl:(opD k b a e).length=e:=by rw[opD,hidF_len,hcl]
  have hDd:Dig 256 (opD k b a e):=hidF_dig hcd a true
  have hn:opN k b a e≤4∧1≤opN k b a e:=hnum_le _
  have hP:opP k b a e x=fullF (shN (opD k b a e) a (opN k b a e)) (opN k b a e) x:=rfl
  have hHe:opH k b a e=sub (opD k b a e) 0 (a+opN k b a e):=rfl
  have hTe:opT k b a e=sub (opD k b a e) (a+opN k b a e) (e-(a+opN k b a e)):=rfl
  obtain⟨c,hc⟩:∃c,sub b 0 e=c:=⟨_,rfl⟩
  rw[hc]at hcl q1 f1
  obtain⟨d,hde⟩:∃d,opD k b a e=d:=⟨_,rfl⟩
  obtain⟨n,hne⟩:∃n,opN k b a e=n:=⟨_,rfl⟩
  rw[hde]at hDl hDd hrr
  rw[hde,hne]at f1 hP hHe hTe
  rw[hne]at hn
  have hss:=shN_lt hDd a n
  have hp8:pw8 n≤4294967296:=by rcases (by omega:n=1∨n=2∨n=3∨n=4)with rfl | rfl | rfl | rfl<;>decide
  have q2:preFull [.v (.int .u64 ((shN d a n:Nat):Int)),.v (.int .i64 (n:Int)),.v (.int .u64 (x:Int))]:=⟨shN d a n,n,x,rfl,hn.2,hn.1,by omega,hx⟩
  have f2:F57 [.v (.int .u64 ((shN d a n:Nat):Int)),.v (.int .i64 (n:Int)),.v (.int .u64 (x:Int))]=.one (.v (.int .u64 (fullF (shN d a n) n x:Nat))):=rfl
  rw[←hP]at f2
  obtain⟨P,hPe⟩:∃P,opP k b a e x=P:=⟨_,rfl⟩
  rw[hPe]at f2 hrr
  have q3:preNon [.v (.ints .u8 k),.v (.int .u64 (P:Int))]:=⟨k,P,rfl,hk⟩
  have f3:F50 [.v (.ints .u8 k),.v (.int .u64 (P:Int))]=.one (.v (.ints .u8 (nonF k P))):=rfl
  have hN:B12 (nonF k P):=nonS_ok hk 8
  obtain⟨N,hNe⟩:∃N,nonF k P=N:=⟨_,rfl⟩
  rw[hNe]at f3 hN hrr
  have hK:B16 (sub k 0 16):=⟨by simp[sub,hkl],sub_dig' hk.2⟩
  obtain⟨ky,hky⟩:∃ky,sub k 0 16=ky:=⟨_,rfl⟩
  rw[hky]at hK hrr
  have hHd:Dig 256 (sub d 0 (a+n)):=sub_dig' hDd
  have hTd:Dig 256 (sub d (a+n) (e-(a+n))):=sub_dig' hDd
  have hHl:(sub d 0 (a+n)).length=a+n:=by simp[sub];omega
  have hTl:(sub d (a+n) (e-(a+n))).length=e-(a+n):=by simp[sub];omega
  obtain⟨H,hH⟩:∃H,opH k b a e=H:=⟨_,rfl⟩
  obtain⟨T,hT⟩:∃T,opT k b a e=T:=⟨_,rfl⟩
  rw[hH]at hHe hrr
  rw[hT]at hTe hrr
  have hHe':=hHe.symm
  have hTe':=hTe.symm
  rw[hHe']at hHd hHl
  rw[hTe']at hTd hTl
  have q4:preSl [.v (.ints .u8 ky),.v (.ints .u8 N),.s .u8 H,.s .u8 T]:=⟨_,_,_,_,rfl,hK,hN,hHd,by omega,hTd,by omega⟩
  have f4:F58 [.v (.ints .u8 ky),.v (.ints .u8 N),.s .u8 H,.s .u8 T]=.many [.s .u8 (opnS ky N H T),.v (.bool (opnB ky N H T))]:=rfl
  obtain⟨B,hB⟩:∃B,opnB ky N H T=B:=⟨_,rfl⟩
  rw[hB]at f4 hrr
  obtain⟨C,hC⟩:∃C,opnS ky N H T=C:=⟨_,rfl⟩
  rw[hC]at f4 hrr
  have sk:sub k 0 44=k:=sub_zero hkl
  have hkyl:=hK.1
  have hNl:=hN.1
  have sC:=qdd C
  have wan:Go.IntKind.i64.wrap ((a:Int)+(n:Int))=((a+n:Nat):Int):=by rw[wrap_i64];omega
  have han:a+n-a=n:=by omega
  simp only[s51,s57,s50,s58]
  simp only[ir36,rs36,gl,hF,c1,c2,c3,c4,we,hc,hcl,q1,f1,sk,hkl,wan,han,hDl,sub_zero,qdb,qai,List.length_cons,List.length_nil,Nat.reduceAdd,Nat.le_refl,Nat.reduceLeDiff,Nat.reduceLT,true_and,and_true,↓qar,↓qan,↓qao,↓qap,↓qam,↓qaj,↓qak,↓qaq,↓qal,idsEs,idsE,idss,killB,effE,stA,wBlk,deads,nwA,cntA,cnts,cnt,valO,blkO,inj,injs,blk,blks,outA,outR,outE,outEs,sids,List.nodup_cons,List.nodup_nil,List.not_mem_nil,List.mem_cons,or_false,false_or,not_or,↓evA,evB,evs,evp,mkB,repB,blen,↓retQ,res,resAll,resOne,kill,apartOk,exp,injV,injB,pur,purs,purR,pursR,List.reduceReplicate,Nat.reduceMul,Nat.reduceSub,Nat.reduceEqDiff,Int.reduceToNat,Int.reduceLE,Int.reduceLT,Int.reduceEq,reduceCtorEq,↓reduceIte]
  repeat(refine And.intro (by omega) ?_)
  refine awp_loopA (n:=104) hA [1,2,4,5,13,14,54,55,56] (by decide +kernel) (fun i:Nat=>[.slice 7 0 1 e e,.int .i64 (a:Int),.int .u64 (x:Int),.ptr 5 0,.int .i64 (n:Int),.int .u64 ((shN d a i:Nat):Int),.slice 7 a 1 n (e-a),.int .i64 (n:Int),.int .i64 (i:Int)])
    (fun i=>[.ints true .u64 roots,.dead,.dead,.dead,.ints true .u8 b,.ints false .u8 k,.dead,.ints false .u8 d]) (fun i=>i≤n) (fun i=>n-i) 0 ?_ (by omega) ?_
  · refine Hd.same ?_
    simp only[shN,↓evA,evB,evs,evp,mkB,repB,blen,↓retQ,res,resAll,resOne,kill,apartOk,exp,injV,injB,pur,purs,purR,pursR,List.reduceReplicate,Nat.reduceAdd,Nat.reduceMul,Nat.reduceSub,Nat.reduceEqDiff,Nat.reduceLT,Int.reduceToNat,Int.reduceLE,Int.reduceLT,Int.reduceEq,reduceCtorEq,↓reduceIte]
  intro i hi K hK'
  simp only[s51,s57,s50,s58]
  by_cases hlt:i<n
  · have d1:(i:Int)<(n:Int):=by omega
    have wi:Go.IntKind.i64.wrap ((i:Int)+1)=((i+1:Nat):Int):=by rw[wrap_i64];omega
    have hst:=shN_step hDd (a:=a) (n:=i) (by omega)
    have hbt:=hDd.all (by decide) (a+i)
    have v1:=wrap64 hbt.1 hbt.2
    have e1:a+i<e:=by omega
    simp only[d1,wi,hDl,hlt,e1,v1,hst,sub_zero,qdb,qai,List.length_cons,List.length_nil,Nat.reduceAdd,Nat.le_refl,Nat.reduceLeDiff,Nat.reduceLT,true_and,and_true,↓evA,evB,evs,evp,mkB,repB,blen,↓retQ,res,resAll,resOne,kill,apartOk,exp,injV,injB,pur,purs,purR,pursR,List.reduceReplicate,Nat.reduceMul,Nat.reduceSub,Nat.reduceEqDiff,Int.reduceToNat,Int.reduceLE,Int.reduceLT,Int.reduceEq,reduceCtorEq,↓reduceIte]
    repeat(refine And.intro (by omega) ?_)
    refine⟨i+1,hK' _ (by omega) (by omega),Hd.same ?_⟩
    simp only[↓evA,evB,evs,evp,mkB,repB,blen,↓retQ,res,resAll,resOne,kill,apartOk,exp,injV,injB,pur,purs,purR,pursR,List.reduceReplicate,Nat.reduceAdd,Nat.reduceMul,Nat.reduceSub,Nat.reduceEqDiff,Nat.reduceLT,Int.reduceToNat,Int.reduceLE,Int.reduceLT,Int.reduceEq,reduceCtorEq,↓reduceIte]
  obtain rfl:i=n:=by omega
  have d1:¬(i:Int)<(i:Int):=by omega
  have e0:0<e:=by omega
  cases B with
  | false =>
    rw[if_neg (by decide)]at hrr
    subst hrr
    simp only[d1,q2,f2,q3,f3,hNl,sk,hkl,hky,hkyl,wan,hHe',hTe',q4,f4,hDl,e0,hF,sub_zero,qdb,qai,List.length_cons,List.length_nil,Nat.reduceAdd,Nat.le_refl,Nat.reduceLeDiff,Nat.reduceLT,true_and,and_true,↓evA,evB,evs,evp,mkB,repB,blen,↓retQ,res,resAll,resOne,kill,apartOk,exp,injV,injB,pur,purs,purR,pursR,List.reduceReplicate,Nat.reduceMul,Nat.reduceSub,Nat.reduceEqDiff,Int.reduceToNat,Int.reduceLE,Int.reduceLT,Int.reduceEq,reduceCtorEq,↓reduceIte]
    repeat(refine And.intro (by omega) ?_)
    simp[out,outs,out1,pur]
  | true =>
  have hre:rst d=bAnd .u8 (getI d 0) (if bAnd .u8 (getI d 0) 128=0 then 28 else 12):=rfl
  by_cases h128:bAnd .u8 (getI d 0) 128=0
  · rw[if_pos h128]at hre
    rw[if_pos rfl,hre]at hrr
    by_cases hr:bAnd .u8 (getI d 0) 28=0
    · rw[if_pos hr]at hrr
      subst hrr
      simp only[d1,q2,f2,q3,f3,hNl,sk,hkl,hky,hkyl,wan,hHe',hTe',q4,f4,hDl,e0,h128,hr,hF,sub_zero,qdb,qai,List.length_cons,List.length_nil,Nat.reduceAdd,Nat.le_refl,Nat.reduceLeDiff,Nat.reduceLT,true_and,and_true,↓evA,evB,evs,evp,mkB,repB,blen,↓retQ,res,resAll,resOne,kill,apartOk,exp,injV,injB,pur,purs,purR,pursR,List.reduceReplicate,Nat.reduceMul,Nat.reduceSub,Nat.reduceEqDiff,Int.reduceToNat,Int.reduceLE,Int.reduceLT,Int.reduceEq,reduceCtorEq,↓reduceIte]
      repeat(refine And.intro (by omega) ?_)
      simp only[out,outs,out1,pur,sC,Nat.zero_add,purs,qcz,qc0,List.not_mem_nil,not_false_eq_true,true_and,and_true,Nat.reduceLeDiff,Nat.le_refl]
    · rw[if_neg hr]at hrr
      subst hrr
      simp only[d1,q2,f2,q3,f3,hNl,sk,hkl,hky,hkyl,wan,hHe',hTe',q4,f4,hDl,e0,h128,hr,hF,sub_zero,qdb,qai,List.length_cons,List.length_nil,Nat.reduceAdd,Nat.le_refl,Nat.reduceLeDiff,Nat.reduceLT,true_and,and_true,↓evA,evB,evs,evp,mkB,repB,blen,↓retQ,res,resAll,resOne,kill,apartOk,exp,injV,injB,pur,purs,purR,pursR,List.reduceReplicate,Nat.reduceMul,Nat.reduceSub,Nat.reduceEqDiff,Int.reduceToNat,Int.reduceLE,Int.reduceLT,Int.reduceEq,reduceCtorEq,↓reduceIte]
      repeat(refine And.intro (by omega) ?_)
      simp[out,outs,out1,pur]
  · rw[if_neg h128]at hre
    rw[if_pos rfl,hre]at hrr
    by_cases hr:bAnd .u8 (getI d 0) 12=0
    · rw[if_pos hr]at hrr
      subst hrr
      simp only[d1,q2,f2,q3,f3,hNl,sk,hkl,hky,hkyl,wan,hHe',hTe',q4,f4,hDl,e0,h128,hr,hF,sub_zero,qdb,qai,List.length_cons,List.length_nil,Nat.reduceAdd,Nat.le_refl,Nat.reduceLeDiff,Nat.reduceLT,true_and,and_true,↓evA,evB,evs,evp,mkB,repB,blen,↓retQ,res,resAll,resOne,kill,apartOk,exp,injV,injB,pur,purs,purR,pursR,List.reduceReplicate,Nat.reduceMul,Nat.reduceSub,Nat.reduceEqDiff,Int.reduceToNat,Int.reduceLE,Int.reduceLT,Int.reduceEq,reduceCtorEq,↓reduceIte]
      repeat(refine And.intro (by omega) ?_)
      simp only[out,outs,out1,pur,sC,Nat.zero_add,purs,qcz,qc0,List.not_mem_nil,not_false_eq_true,true_and,and_true,Nat.reduceLeDiff,Nat.le_refl]
    · rw[if_neg hr]at hrr
      subst hrr
      simp only[d1,q2,f2,q3,f3,hNl,sk,hkl,hky,hkyl,wan,hHe',hTe',q4,f4,hDl,e0,h128,hr,hF,sub_zero,qdb,qai,List.length_cons,List.length_nil,Nat.reduceAdd,Nat.le_refl,Nat.reduceLeDiff,Nat.reduceLT,true_and,and_true,↓evA,evB,evs,evp,mkB,repB,blen,↓retQ,res,resAll,resOne,kill,apartOk,exp,injV,injB,pur,purs,purR,pursR,List.reduceReplicate,Nat.reduceMul,Nat.reduceSub,Nat.reduceEqDiff,Int.reduceToNat,Int.reduceLE,Int.reduceLT,Int.reduceEq,reduceCtorEq,↓reduceIte]
      repeat(refine And.intro (by omega) ?_)
      simp[out,outs,out1,pur]
end Am
set_option maxRecDepth 20000
namespace Am
open Go.Proofs
/-! ### Numbers behind the document's opening -/
theorem map_byte:∀{xs:List Int},Dig 256 xs→xs.map byte=xs
  | [],_=>rfl
  | x::xs,h=>by
    have h0:=h x (List.mem_cons_self ..)
    rw[List.map_cons,map_byte fun y hy=>h y (List.mem_cons_of_mem _ hy),show byte x=x by unfold byte;omega]
theorem lt128 {x:Int} (h:Bt x):bAnd .u8 x 128=0↔x<128:=by
  obtain⟨p,rfl,hp⟩:=h.nat
  have key:∀p:Fin 256,bAnd .u8 ((p.val:Nat):Int) 128=0↔((p.val:Nat):Int)<128:=by decide +kernel
  exact key ⟨p,hp⟩
theorem hnum_mod {x:Int} (h:Bt x):Go.IntKind.i64.wrap (Go.IntKind.i64.wrap (x.tmod 4)+1)=(hnum x:Int):=by
  obtain⟨p,rfl,hp⟩:=h.nat
  have key:∀p:Fin 256,hnum ((p.val:Nat):Int)=p.val%4+1:=by decide +kernel
  rw[show hnum (p:Int)=p%4+1 from key ⟨p,hp⟩,show ((p:Nat):Int).tmod 4=((p%4:Nat):Int)from tmod_nat (k:=4),wrap_i64,wrap_i64]
  omega
/-- A nonce's bytes, from the last one on. -/
def nonZ (pn:Int) (s:List Int) (i:Nat):List Int:=s.set (11-i) (bXor .u8 (getI s (11-i)) (Go.IntKind.u8.wrap (iShr .u64 pn ((8*i:Nat):Int))))
theorem nonZ_len {pn:Int} {s:List Int} (n:Nat):(itr (nonZ pn) s n).length=s.length :=
  itr_inv (fun _ (t:List Int)=>t.length=s.length) rfl (fun n t ht=>by simp[nonZ,ht]) n
theorem nonS_len {pn:Int} {s:List Int} (n:Nat):(itr (nonS pn) s n).length=s.length :=
  itr_inv (fun _ (t:List Int)=>t.length=s.length) rfl (fun n t ht=>by simp[nonS,ht]) n
theorem nonS_get {pn:Int} {s:List Int} (hs:s.length=12):∀n,n≤8→∀j,getI (itr (nonS pn) s n) j=if 4≤j∧j<4+n then bXor .u8 (getI s j) (Go.IntKind.u8.wrap (iShr .u64 pn ((56-8*(j-4):Nat):Int)))else getI s j
  | 0,_,j=>by rw[if_neg (by omega)];rfl
  | n+1,h,j=>by
    have hl:=nonS_len (pn:=pn) (s:=s) n
    have e:itr (nonS pn) s (n+1)=nonS pn (itr (nonS pn) s n) n:=rfl
    have g1:getI (itr (nonS pn) s n) (4+n)=getI s (4+n):=by rw[nonS_get hs n (by omega) (4+n),if_neg (by omega)]
    rw[e,nonS,getI_sv (by omega),g1,nonS_get hs n (by omega) j]
    by_cases hj:4+n=j
    · rw[if_pos hj,if_pos (by omega),←hj,Nat.add_sub_cancel_left]
    · rw[if_neg hj]
      by_cases h2:4≤j∧j<4+n
      · rw[if_pos h2,if_pos (by omega)]
      · rw[if_neg h2,if_neg (by omega)]
theorem nonZ_get {pn:Int} {s:List Int} (hs:s.length=12):∀n,n≤8→∀j,getI (itr (nonZ pn) s n) j=if 12-n≤j∧j<12 then bXor .u8 (getI s j) (Go.IntKind.u8.wrap (iShr .u64 pn ((8*(11-j):Nat):Int)))else getI s j
  | 0,_,j=>by rw[if_neg (by omega)];rfl
  | n+1,h,j=>by
    have hl:=nonZ_len (pn:=pn) (s:=s) n
    have e:itr (nonZ pn) s (n+1)=nonZ pn (itr (nonZ pn) s n) n:=rfl
    have g1:getI (itr (nonZ pn) s n) (11-n)=getI s (11-n):=by rw[nonZ_get hs n (by omega) (11-n),if_neg (by omega)]
    rw[e,nonZ,getI_sv (by omega),g1,nonZ_get hs n (by omega) j]
    by_cases hj:11-n=j
    · rw[if_pos hj,if_pos (by omega),←hj,show 11-(11-n)=n by omega]
    · rw[if_neg hj]
      by_cases h2:12-n≤j∧j<12
      · rw[if_pos h2,if_pos (by omega)]
      · rw[if_neg h2,if_neg (by omega)]
theorem nonZ_eq {k:List Int} (hk:k.length=44) (pn:Int):itr (nonZ pn) (sub k 16 12) 8=nonF k pn:=by
  have hs:(sub k 16 12).length=12:=by simp[sub,hk]
  unfold nonF
  refine getI_ext (by rw[nonZ_len,nonS_len]) fun j hj=>?_
  rw[nonZ_len,hs]at hj
  rw[nonZ_get hs 8 (by decide),nonS_get hs 8 (by decide)]
  by_cases h:4≤j
  · rw[if_pos (by omega),if_pos (by omega),show 8*(11-j)=56-8*(j-4) by omega]
  · rw[if_neg (by omega),if_neg (by omega)]
theorem seal_sub (k n a b:List Int) {l:Nat} (h:b.length=l):sub (sealF k n a b) 0 l=strF (newF k) n b:=by
  simp[sealF,sub,←str_len (newF k) n b▸h]
/-- What is sealed again is the same just when it is right. -/
theorem seal_again {k n a b:List Int} (hk:B16 k) (hn:B12 n) (hb:Dig 256 b):sealF k n a (strF (newF k) n (bodyF b))=b↔opnB k n a b=true:=by
  have hbd:Dig 256 (bodyF b):=sub_dig' hb
  constructor
  · intro h
    have:=(opn_seal k n a (strF (newF k) n (bodyF b)) hk hn (str_dig _ _ _)).1
    rwa [h]at this
  · intro h
    have h2:=seal_opn hk hn hb h
    rwa [opnS,h,if_pos rfl]at h2
/-- The number's bytes while they are shown. -/
theorem hid_sh {m s d:List Int} {a n:Nat} (hd:itr (hidS m a) s n=d) (hl:a+n≤s.length):∀i,i<n→bXor .u8 (getI (itr (hidS m a) s i) (a+i)) (getI m (1+i))=getI d (a+i):=fun i hi=>by
  rw[hid_get i (by omega),if_neg (by omega),←hd,hid_get n hl,if_pos (by omega),Nat.add_sub_cancel_left]
end Am
