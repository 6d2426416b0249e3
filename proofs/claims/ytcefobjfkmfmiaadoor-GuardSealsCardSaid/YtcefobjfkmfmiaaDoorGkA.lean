/-
Working texts: contracts of functions, and the numbers behind them.
-/
import Derived.Test.YtcefobjfkmfmiaaDoorShG
import Derived.Test.YtcefobjfkmfmiaaDoorIrE
import Derived.Test.YtcefobjfkmfmiaaDoorGeA
import Derived.Test.YtcefobjfkmfmiaaDoorAmLoop
set_option linter.unusedSimpArgs false
set_option linter.unusedVariables false
set_option linter.unusedSectionVars false
set_option maxRecDepth 20000
namespace Am
open Go.Proofs
/-! ### A secret's keys, the first secrets -/
theorem exps1_dig {s info:List Int}:∀i,Dig 256 (exps s info i).1
  | 0=>fun x hx=>absurd hx (by simp[exps])
  | i+1=>by rw[exps];exact Dig.append (exps1_dig i) (hmac_dig _ _)
theorem expand_dig (s info:List Int) (n:Nat):Dig 256 (expand s info n):=(exps1_dig _).take n
def lkey:List Int:=[113,117,105,99,32,107,101,121]
def lnon:List Int:=[113,117,105,99,32,105,118]
def lmsk:List Int:=[113,117,105,99,32,104,112]
def ex (s l:List Int) (n:Nat):List Int:=expand s (labinfo l [] n) n
def gkeys (s:List Int):List Int:=ex s lkey 16++(ex s lnon 12++ex s lmsk 16)
theorem lit_dig {l:List Int} (h:l.all (fun x=>decide (0≤x∧x<256))=true):Dig 256 l:=fun x hx=>of_decide_eq_true (List.all_eq_true.1 h x hx)
theorem ex_dig {s l:List Int} {n:Nat}:(ex s l n).length=n:=expand_len _ _ _
def Sec (s:List Int):Prop:=s.length=32∧Dig 256 s
def preSec (ds:List D):Prop:=∃s:List Int,ds=[.v (.ints .u8 s)]∧Sec s
theorem q_lab {s l:List Int} (h:Sec s) (hl:Dig 256 l) (n:Int):pre38 [.v (.ints .u8 s),.v (.str l),.s .u8 [],.v (.int .i64 n)]:=⟨s,l,[],n,rfl,h.2,h.1,hl,fun x hx=>by simp at hx⟩
def F13:List D→Out
  | [.v (.ints _ s)]=>.one (.v (.ints .u8 (gkeys s)))
  | _=>bad
def s13:Summ:=sData [.v] preSec F13
theorem ok13 {g:List Blk} [Ge gl g]:SumOK Tryd.prog g 13 s13∧SumAbs s13:=by
  refine fsumA (l:=[(38,s38)]) mixed gl_plain rfl Tryd.func13 comp13 compR13 nt13 (by simp only[List.mem_cons,List.not_mem_nil,or_false,forall_eq];exact ok38) fun ds ⟨s,hd,hs⟩ hA=>?_
  subst hd
  have hsl:=hs.1
  have ss:sub s 0 32=s:=sub_zero hsl
  have q1:=q_lab (l:=lkey) hs (lit_dig rfl) 16
  have q2:=q_lab (l:=lnon) hs (lit_dig rfl) 12
  have q3:=q_lab (l:=lmsk) hs (lit_dig rfl) 16
  have n1:¬Lng lkey []:=by decide
  have n2:¬Lng lnon []:=by decide
  have n3:¬Lng lmsk []:=by decide
  have t16:(16:Int).toNat=16:=rfl
  have t12:(12:Int).toNat=12:=rfl
  obtain⟨A,hA1⟩:∃A,expand s (labinfo lkey [] 16) 16=A:=⟨_,rfl⟩
  obtain⟨B,hB⟩:∃A,expand s (labinfo lnon [] 12) 12=A:=⟨_,rfl⟩
  obtain⟨C,hC⟩:∃A,expand s (labinfo lmsk [] 16) 16=A:=⟨_,rfl⟩
  have hG:gkeys s=A++(B++C):=by rw[←hA1,←hB,←hC];rfl
  have lA:A.length=16:=by rw[←hA1,expand_len]
  have lB:B.length=12:=by rw[←hB,expand_len]
  have lC:C.length=16:=by rw[←hC,expand_len]
  have sA:sub A 0 16=A:=sub_zero lA
  have sB:sub B 0 12=B:=sub_zero lB
  have sC:sub C 0 16=C:=sub_zero lC
  simp only[lkey,lnon,lmsk]at q1 q2 q3 n1 n2 n3 hA1 hB hC
  have tA:A.take 16=A:=List.take_of_length_le (by omega)
  have tB:B.take 12=B:=List.take_of_length_le (by omega)
  have tC:C.take 16=C:=List.take_of_length_le (by omega)
  have e1:spl (List.replicate 44 0) 0 A=A++List.replicate 28 0:=by
    simp[spl,lA]
  have e2:spl (A++List.replicate 28 0) 16 B=A++(B++List.replicate 16 0):=by
    simp[spl,lA,lB,List.take_append,List.drop_append]
  have e3:spl (A++(B++List.replicate 16 0)) 28 C=A++(B++C):=by
    simp[spl,lA,lB,lC,List.take_append,List.drop_append]
    rw[List.drop_of_length_le (by omega:A.length≤44),List.drop_of_length_le (by omega:B.length≤28)];simp
    exact List.take_of_length_le (by omega)
  have lG:(A++(B++C)).length=44:=by simp[lA,lB,lC]
  have sG:sub (A++(B++C)) 0 44=A++(B++C):=sub_zero lG
  have pG:spl (List.replicate 44 0) 0 (A++(B++C))=A++(B++C):=qdb (by simp[lA,lB,lC])
  simp only[List.reduceReplicate]at e1 e2 e3 pG
  simp only[s38]
  simp only[ir13,rs13,gl,F13,F60,hsl,ss,q1,q2,q3,n1,n2,n3,t16,t12,hA1,hB,hC,hG,lA,lB,lC,sA,sB,sC,tA,tB,tC,e1,e2,e3,lG,sG,pG,or_self,Nat.min_self,s38,F38,sub_zero,qdb,qai,List.length_cons,List.length_nil,Nat.reduceAdd,Nat.le_refl,Nat.reduceLeDiff,Nat.reduceLT,true_and,and_true,↓evA,evB,evs,evp,mkB,repB,blen,↓retQ,res,resAll,resOne,kill,apartOk,exp,injV,injB,pur,purs,purR,pursR,List.reduceReplicate,Nat.reduceMul,Nat.reduceSub,Nat.reduceEqDiff,Int.reduceToNat,Int.reduceLE,Int.reduceLT,Int.reduceEq,reduceCtorEq,↓reduceIte]
  repeat(refine And.intro (by omega) ?_)
  simp only[out,outs,out1,pur,and_self]
def lci:List Int:=[99,108,105,101,110,116,32,105,110]
def lsi:List Int:=[115,101,114,118,101,114,32,105,110]
def salt:List Int:=[0x38,0x76,0x2c,0xf7,0xf5,0x59,0x34,0xb3,0x4d,0x17,0x9a,0xe6,0xa4,0xc8,0x0c,0xad,0xcc,0xbb,0x7f,0x0a]
def preId (ds:List D):Prop:=∃b:List Int,ds=[.s .u8 b]∧Dig 256 b∧b.length≤549755813888
def F14:List D→Out
  | [.s _ b]=>.many [.v (.ints .u8 (ex (hmac salt b) lci 32)),.v (.ints .u8 (ex (hmac salt b) lsi 32))]
  | _=>bad
def s14:Summ:=sData [.s .u8] preId F14
theorem ok14 {g:List Blk} [Ge gl g]:SumOK Tryd.prog g 14 s14∧SumAbs s14:=by
  refine fsumA (l:=[(39,s39),(40,s40)]) mixed gl_plain rfl Tryd.func14 comp14 compR14 nt14 (by simp only[List.mem_cons,List.not_mem_nil,or_false,forall_eq_or_imp,forall_eq];exact⟨ok39,ok40⟩) fun ds ⟨b,hd,hb,hbl⟩ hA=>?_
  subst hd
  have sb:=qdd b
  have q1:pre39 [.s .u8 salt,.s .u8 b]:=⟨_,_,rfl,lit_dig rfl,by decide,hb,hbl⟩
  have hm:(hmac salt b).length=32∧Dig 256 (hmac salt b):=⟨hmac_len _ _,hmac_dig _ _⟩
  obtain⟨s,hs⟩:∃s,hmac salt b=s:=⟨_,rfl⟩
  rw[hs]at hm
  have hsl:=hm.1
  have ss:sub s 0 32=s:=sub_zero hsl
  have ps:spl [0,0,0,0,0,0,0,0,0,0,0,0,0,0,0,0,0,0,0,0,0,0,0,0,0,0,0,0,0,0,0,0] 0 s=s:=qdb (by simp[hsl])
  have q2:pre40 [.v (.ints .u8 s),.v (.str lci),.s .u8 []]:=⟨_,_,_,rfl,hm.2,hsl,lit_dig rfl,fun x hx=>by simp at hx⟩
  have q3:pre40 [.v (.ints .u8 s),.v (.str lsi),.s .u8 []]:=⟨_,_,_,rfl,hm.2,hsl,lit_dig rfl,fun x hx=>by simp at hx⟩
  have k1:labkey s lci []=ex s lci 32:=by rw[labkey,if_neg (by decide)];rfl
  have k2:labkey s lsi []=ex s lsi 32:=by rw[labkey,if_neg (by decide)];rfl
  obtain⟨A,hA1⟩:∃A,ex s lci 32=A:=⟨_,rfl⟩
  obtain⟨B,hB⟩:∃A,ex s lsi 32=A:=⟨_,rfl⟩
  have lA:A.length=32:=by rw[←hA1,ex_dig]
  have lB:B.length=32:=by rw[←hB,ex_dig]
  have pA:spl [0,0,0,0,0,0,0,0,0,0,0,0,0,0,0,0,0,0,0,0,0,0,0,0,0,0,0,0,0,0,0,0] 0 A=A:=qdb (by simp[lA])
  have pB:spl [0,0,0,0,0,0,0,0,0,0,0,0,0,0,0,0,0,0,0,0,0,0,0,0,0,0,0,0,0,0,0,0] 0 B=B:=qdb (by simp[lB])
  have sA:sub A 0 32=A:=sub_zero lA
  have sB:sub B 0 32=B:=sub_zero lB
  rw[hA1]at k1
  rw[hB]at k2
  have hF:F14 [.s .u8 b]=.many [.v (.ints .u8 A),.v (.ints .u8 B)]:=by
    show Out.many [.v (.ints .u8 (ex (hmac salt b) lci 32)),.v (.ints .u8 (ex (hmac salt b) lsi 32))]=_
    rw[hs,hA1,hB]
  have ssalt:sub salt 0 20=salt:=rfl
  simp only[salt]at q1 hs ssalt
  simp only[lci,lsi]at q2 q3 k1 k2
  simp only[s39,s40]
  simp only[ir14,rs14,gl,hF,q1,hs,hsl,ss,ps,q2,q3,k1,k2,sb,pA,pB,sA,sB,lA,lB,ssalt,s39,s40,F39,F40,sub_zero,qdb,qai,List.length_cons,List.length_nil,Nat.reduceAdd,Nat.le_refl,Nat.reduceLeDiff,Nat.reduceLT,true_and,and_true,↓evA,evB,evs,evp,mkB,repB,blen,↓retQ,res,resAll,resOne,kill,apartOk,exp,injV,injB,pur,purs,purR,pursR,List.reduceReplicate,Nat.reduceMul,Nat.reduceSub,Nat.reduceEqDiff,Int.reduceToNat,Int.reduceLE,Int.reduceLT,Int.reduceEq,reduceCtorEq,↓reduceIte]
  repeat(refine And.intro (by omega) ?_)
  simp only[out,outs,out1,pur,and_self]
end Am
set_option maxRecDepth 20000
namespace Am
open Go.Proofs
/-! ### The example of the chapter -/
def idx:List Int:=[0x83,0x94,0xc8,0xf0,0x3e,0x51,0x57,0x08]
theorem aw13:(getI (gkeys (ex (hmac salt idx) lci 32)) 0=31∧getI (gkeys (ex (hmac salt idx) lci 32)) 1=54∧getI (gkeys (ex (hmac salt idx) lci 32)) 15=45)∧getI (gkeys (ex (hmac salt idx) lci 32)) 16=250∧getI (gkeys (ex (hmac salt idx) lci 32)) 28=159:=by decide +kernel
theorem gkeys_len (s:List Int):(gkeys s).length=44:=by simp[gkeys,ex_dig]
theorem exps_dig' (s l:List Int) (n:Nat):Dig 256 (ex s l n):=by
  exact expand_dig _ _ _
def FTrue:List D→Out
  | _=>.one (.v (.bool true))
def F12:List D→Out
  | _=>.one (.v (.bool true))
def pre12 (ds:List D):Prop:=ds=[]
def s12:Summ:=sData [] pre12 F12
set_option maxHeartbeats 2000000 in
theorem ok12 {g:List Blk} [Ge gl g]:SumOK Tryd.prog g 12 s12∧SumAbs s12:=by
  refine fsumA (l:=[(14,s14),(13,s13)]) mixed gl_plain rfl Tryd.func12 comp12 compR12 nt12 (by simp only[List.mem_cons,List.not_mem_nil,or_false,forall_eq_or_imp,forall_eq];exact⟨ok14,ok13⟩) fun ds hd hA=>?_
  rw[hd]
  have q1:preId [.s .u8 idx]:=⟨_,rfl,lit_dig rfl,by decide⟩
  have sI:sub idx 0 8=idx:=rfl
  obtain⟨⟨a1,a2,a3⟩,a4,a5⟩:=aw13
  obtain⟨A,hA1⟩:∃A,ex (hmac salt idx) lci 32=A:=⟨_,rfl⟩
  obtain⟨B,hB⟩:∃A,ex (hmac salt idx) lsi 32=A:=⟨_,rfl⟩
  have lA:A.length=32:=by rw[←hA1,ex_dig]
  have dA:Dig 256 A:=by rw[←hA1];exact exps_dig' _ _ _
  have lB:B.length=32:=by rw[←hB,ex_dig]
  rw[hA1]at a1 a2 a3 a4 a5
  obtain⟨G,hG⟩:∃G,gkeys A=G:=⟨_,rfl⟩
  have lG:G.length=44:=by rw[←hG,gkeys_len]
  rw[hG]at a1 a2 a3 a4 a5
  have q2:preSec [.v (.ints .u8 A)]:=⟨_,rfl,lA,dA⟩
  have pA:spl [0,0,0,0,0,0,0,0,0,0,0,0,0,0,0,0,0,0,0,0,0,0,0,0,0,0,0,0,0,0,0,0] 0 A=A:=qdb (by simp[lA])
  have pB:spl [0,0,0,0,0,0,0,0,0,0,0,0,0,0,0,0,0,0,0,0,0,0,0,0,0,0,0,0,0,0,0,0] 0 B=B:=qdb (by simp[lB])
  have sA:sub A 0 32=A:=sub_zero lA
  have pG:spl (List.replicate 44 0) 0 G=G:=qdb (by simp[lG])
  have hF:F14 [.s .u8 idx]=.many [.v (.ints .u8 A),.v (.ints .u8 B)]:=by
    show Out.many [.v (.ints .u8 (ex (hmac salt idx) lci 32)),.v (.ints .u8 (ex (hmac salt idx) lsi 32))]=_
    rw[hA1,hB]
  have hF2:F13 [.v (.ints .u8 A)]=.one (.v (.ints .u8 G)):=by
    show Out.one (.v (.ints .u8 (gkeys A)))=_
    rw[hG]
  simp only[idx]at q1 sI hF
  simp only[List.reduceReplicate]at pG
  simp only[s14,s13]
  simp only[ir12,rs12,gl,F12,q1,sI,hF,q2,hF2,lA,lB,lG,pA,pB,sA,pG,a1,a2,a3,a4,a5,sub_zero,qdb,qai,List.length_cons,List.length_nil,Nat.reduceAdd,Nat.le_refl,Nat.reduceLeDiff,Nat.reduceLT,true_and,and_true,↓evA,evB,evs,evp,mkB,repB,blen,↓retQ,res,resAll,resOne,kill,apartOk,exp,injV,injB,pur,purs,purR,pursR,List.reduceReplicate,Nat.reduceMul,Nat.reduceSub,Nat.reduceEqDiff,Int.reduceToNat,Int.reduceLE,Int.reduceLT,Int.reduceEq,reduceCtorEq,↓reduceIte]
  repeat(refine And.intro (by omega) ?_)
  simp only[out,outs,out1,pur,and_self]
end Am
set_option maxRecDepth 20000
namespace Am
open Go.Proofs
/-! ### A law's case -/
theorem injV_cs (r:List D) (n:Nat):∀s:List Int,injV (s.map (fun x=>D.v (.int .u8 x))++r) n=s.map (V.int .u8)++injV r n
  | []=>rfl
  | x::s=>by simp only[List.map_cons,List.cons_append,injV,injV_cs r n s]
theorem injB_cs (ro:Bool) (r:List D):∀s:List Int,injB ro (s.map (fun x=>D.v (.int .u8 x))++r)=injB ro r
  | []=>rfl
  | x::s=>by simp only[List.map_cons,List.cons_append,injB,injB_cs ro r s]
theorem allI_app (k:Go.IntKind) (l:List V):∀s:List Int,allI k (s.map (V.int k)++l)=(allI k l).map (s++·)
  | []=>by cases h:allI k l<;>simp[h]
  | x::s=>by
    have ih:=allI_app k l s
    simp only[List.map_cons,List.cons_append,allI,ih]
    cases h:allI k l<;>simp[h]
theorem agI_cs {s:List Int} (hs:s.length=32) {l:List V} (h:allI .u8 l=none):agI (cs s l)=.agg (cs s l):=by
  cases s with
  | nil=>simp at hs
  | cons x s =>
    have:=allI_app .u8 l (x::s)
    rw[h]at this
    unfold cs
    simp only[List.map_cons,List.cons_append]at this ⊢
    unfold agI
    simp only[this,Option.map_none]
theorem frzs_map (f:V→(V→Prop)→Prop) (hf:∀x K,f (.int .u8 x) K=K (.int .u8 x)) (l:List V):∀(s:List Int) (K:List V→Prop),frzs f (s.map (V.int .u8)++l) K=frzs f l fun r=>K (s.map (V.int .u8)++r)
  | [],K=>rfl
  | x::s,K=>by
    simp only[List.map_cons,List.cons_append,frzs,hf,frzs_map f hf l s]
theorem pursR_cs (s:List Int) (l:List V):pursR (cs s l)=pursR l:=by
  unfold cs
  induction s with
  | nil=>rfl
  | cons x s ih=>simp only[List.map_cons,List.cons_append,pursR,purR,Bool.true_and,ih]
end Am
set_option maxRecDepth 20000
namespace Am
open Go.Proofs
/-! ### A case's head, right or not -/
def hdG:List V→RT
  | [.agg c]=>match nth c 37 with
    | .bool true=>⟨[some 3,none,none],[.v (.int .i64 (sp3 (vn (nth c 32)))),.s .u8 (p8 (vxs (nth c 33))),.s .u8 (p8 (vxs (nth c 34))),.v (.int .u64 (pnR (vn (nth c 35)))),.v (.int .u64 (acR (vn (nth c 35)) (vn (nth c 36))))]⟩
    | _=>⟨[some 3,none,none],[.v (nth c 32),.v (nth c 33),.v (nth c 34),.v (nth c 35),.v (nth c 36)]⟩
  | _=>⟨[],[]⟩
def preHG (vs:List V):Prop:=∃(s to fr:List Int) (sp:Int) (pn ac:Nat) (r:Bool) (x:V),vs=[.agg (cs s [.int .i64 sp,.rsl 1 to.length .u8 to,.rsl 1 fr.length .u8 fr,.int .u64 (pn:Int),.int .u64 (ac:Int),.bool r,x])]∧s.length=32∧(-9223372036854775808≤sp∧sp<9223372036854775808)∧to.length≤50∧fr.length≤50∧pn<18446744073709551616
def sHG:Summ:=sSt preHG hdG
set_option maxHeartbeats 8000000 in
theorem okHG {g:List Blk} [Ge gl g]:SumOK Tryd.prog g 32 sHG∧SumAbs sHG:=by
  refine ssumA (l:=[]) mixed gl_plain rfl Tryd.func32 comp32 compR32 nt32 (by simp) fun vs ⟨s,to,fr,sp,pn,ac,r,x,hd,hs,hsp,htl,hfl,hpn⟩ hA=>?_
  subst hd
  cases r with
  | false =>
    generalize hl:[V.int .i64 sp,.rsl 1 to.length .u8 to,.rsl 1 fr.length .u8 fr,.int .u64 (pn:Int),.int .u64 (ac:Int),.bool false,x]=l
    have hn:=cs_nth hs l
    have h0:=hn 0
    have h1:=hn 1
    have h2:=hn 2
    have h3:=hn 3
    have h4:=hn 4
    have h5:=hn 5
    have hcl:=cs_len hs l
    generalize cs s l=C at *
    rw[←hl]at h0 h1 h2 h3 h4 h5 hcl
    simp only[nth,Nat.reduceAdd,List.length_cons,List.length_nil]at h0 h1 h2 h3 h4 h5 hcl
    have hF:hdG [.agg C]=⟨[some 3,none,none],[.v (.int .i64 sp),.v (.rsl 1 to.length .u8 to),.v (.rsl 1 fr.length .u8 fr),.v (.int .u64 (pn:Int)),.v (.int .u64 (ac:Int))]⟩:=by
      simp only[hdG,h0,h1,h2,h3,h4,h5]
    have g1:agI [V.int .i64 sp,.rsl 1 to.length .u8 to,.rsl 1 fr.length .u8 fr]=.agg [V.int .i64 sp,.rsl 1 to.length .u8 to,.rsl 1 fr.length .u8 fr]:=rfl
    have g3:spl [V.int .i64 0,V.nils,V.nils] 0 [V.int .i64 sp,.rsl 1 to.length .u8 to,.rsl 1 fr.length .u8 fr]=[V.int .i64 sp,.rsl 1 to.length .u8 to,.rsl 1 fr.length .u8 fr]:=rfl
    have g4:sub [V.int .i64 sp,.rsl 1 to.length .u8 to,.rsl 1 fr.length .u8 fr] 0 3=[V.int .i64 sp,.rsl 1 to.length .u8 to,.rsl 1 fr.length .u8 fr]:=rfl
    simp only[ir32,rs32,gl,hF,hcl,h0,h1,h2,h3,h4,h5,g1,g3,g4,sub_zero,qdb,qai,List.length_cons,List.length_nil,Nat.reduceAdd,Nat.le_refl,Nat.reduceLeDiff,Nat.reduceLT,true_and,and_true,↓evA,evB,evs,evp,mkB,repB,blen,↓retQ,res,resAll,resOne,kill,apartOk,exp,injV,injB,pur,purs,purR,pursR,List.reduceReplicate,Nat.reduceMul,Nat.reduceSub,Nat.reduceEqDiff,Int.reduceToNat,Int.reduceLE,Int.reduceLT,Int.reduceEq,reduceCtorEq,↓reduceIte]
    repeat(refine And.intro (by omega) ?_)
    refine⟨_,_,rfl,rfl,?_⟩
    simp[outsR,out1R,purR]
  | true =>
  obtain⟨l,hl⟩:∃l:List V,[.int .i64 sp,.rsl 1 to.length .u8 to,.rsl 1 fr.length .u8 fr,.int .u64 (pn:Int),.int .u64 (ac:Int),.bool true,x]=l:=⟨_,rfl⟩
  have hn:=cs_nth hs l
  have h0:=hn 0
  have h1:=hn 1
  have h2:=hn 2
  have h3:=hn 3
  have h4:=hn 4
  have h5:=hn 5
  have hcl:=cs_len hs l
  rw[hl]
  obtain⟨C,hC⟩:∃C,cs s l=C:=⟨_,rfl⟩
  rw[hC]at h0 h1 h2 h3 h4 h5 hcl ⊢
  rw[←hl]at h0 h1 h2 h3 h4 h5 hcl
  simp only[nth,Nat.reduceAdd,List.length_cons,List.length_nil]at h0 h1 h2 h3 h4 h5 hcl
  have hF:hdG [.agg C]=⟨[some 3,none,none],[.v (.int .i64 (sp3 (vn (nth C 32)))),.s .u8 (p8 (vxs (nth C 33))),.s .u8 (p8 (vxs (nth C 34))),.v (.int .u64 (pnR (vn (nth C 35)))),.v (.int .u64 (acR (vn (nth C 35)) (vn (nth C 36))))]⟩:=by
    simp only[hdG,h5]
  rw[h0,h1,h2,h3,h4]at hF
  simp only[vn,vxs]at hF
  have p1:((pn:Int)).tmod 4611686018427387904=((pn%4611686018427387904:Nat):Int):=tmod_nat (k:=4611686018427387904)
  have p2:((ac:Int)).tmod 70000=((ac%70000:Nat):Int):=tmod_nat (k:=70000)
  obtain⟨P,hP⟩:∃P,pn%4611686018427387904=P:=⟨_,rfl⟩
  obtain⟨A,hA1⟩:∃A,ac%70000=A:=⟨_,rfl⟩
  rw[hP]at p1
  rw[hA1]at p2
  have hPl:P<4611686018427387904:=by rw[←hP];exact Nat.mod_lt _ (by decide)
  have u1:(upd C 35 (V.int .u64 (P:Int))).length=39:=by rw[upd_set,List.length_set,hcl]
  have u2:=nth_upd C 35 35 (V.int .u64 (P:Int))
  have u3:=nth_upd C 35 36 (V.int .u64 (P:Int))
  rw[if_pos (by omega)]at u2
  rw[if_neg (by omega),h4]at u3
  obtain⟨C1,hC1⟩:∃C1,upd C 35 (V.int .u64 (P:Int))=C1:=⟨_,rfl⟩
  rw[hC1]at u1 u2 u3
  have wsp:Go.IntKind.i64.wrap ((Go.IntKind.u64.wrap sp).tmod 3)=((sp3 sp:Nat):Int):=by
    unfold sp3
    rw[wrap_u64,wrap_i64,Int.tmod_eq_emod_of_nonneg (by omega)]
    omega
  have wm:Go.IntKind.u64.wrap ((P:Int)-min (P:Int) (A:Int))=((P-min P A:Nat):Int):=by rw[wrap_u64];omega
  obtain⟨Q,hQ⟩:∃Q,P-min P A=Q:=⟨_,rfl⟩
  rw[hQ]at wm
  have hpR:pnR (pn:Int)=P:=by rw[←hP];rfl
  have haR:acR (pn:Int) (ac:Int)=Q:=by unfold acR;rw[hpR,←hQ,←hA1];rfl
  rw[hpR,haR]at hF
  have v1:(upd C1 36 (V.int .u64 (Q:Int))).length=39:=by rw[upd_set,List.length_set,u1]
  have v2:=nth_upd C1 36 35 (V.int .u64 (Q:Int))
  have v3:=nth_upd C1 36 36 (V.int .u64 (Q:Int))
  rw[if_neg (by omega),u2]at v2
  rw[if_pos (by omega)]at v3
  obtain⟨C2,hC2⟩:∃C2,upd C1 36 (V.int .u64 (Q:Int))=C2:=⟨_,rfl⟩
  rw[hC2]at v1 v2 v3
  obtain⟨z,hz⟩:∃z,sp3 sp=z:=⟨_,rfl⟩
  rw[hz]at wsp hF
  have g1:agI [V.int .i64 sp,.rsl 1 to.length .u8 to,.rsl 1 fr.length .u8 fr]=.agg [V.int .i64 sp,.rsl 1 to.length .u8 to,.rsl 1 fr.length .u8 fr]:=rfl
  have g2:agI [V.int .i64 (z:Int),V.slice 9 0 1 8 (to.length+8),V.slice 12 0 1 8 (fr.length+8)]=.agg [V.int .i64 (z:Int),V.slice 9 0 1 8 (to.length+8),V.slice 12 0 1 8 (fr.length+8)]:=rfl
  have g3:spl [V.int .i64 0,V.nils,V.nils] 0 [V.int .i64 (z:Int),V.slice 9 0 1 8 (to.length+8),V.slice 12 0 1 8 (fr.length+8)]=[V.int .i64 (z:Int),V.slice 9 0 1 8 (to.length+8),V.slice 12 0 1 8 (fr.length+8)]:=rfl
  have g4:sub [V.int .i64 (z:Int),V.slice 9 0 1 8 (to.length+8),V.slice 12 0 1 8 (fr.length+8)] 0 3=[V.int .i64 (z:Int),V.slice 9 0 1 8 (to.length+8),V.slice 12 0 1 8 (fr.length+8)]:=rfl
  simp only[ir32,rs32,gl,hF,hcl,h0,h1,h2,h3,h4,h5,g1,g2,g3,g4,p1,p2,wsp,wm,hC1,u1,u2,u3,hC2,v1,v2,v3,sub_zero,qdb,qai,List.length_cons,List.length_nil,Nat.reduceAdd,Nat.le_refl,Nat.reduceLeDiff,Nat.reduceLT,true_and,and_true,↓evA,evB,evs,evp,mkB,repB,blen,↓retQ,res,resAll,resOne,kill,apartOk,exp,injV,injB,pur,purs,purR,pursR,List.reduceReplicate,Nat.reduceMul,Nat.reduceSub,Nat.reduceEqDiff,Int.reduceToNat,Int.reduceLE,Int.reduceLT,Int.reduceEq,reduceCtorEq,↓reduceIte]
  repeat(refine And.intro (by omega) ?_)
  refine⟨_,_,rfl,rfl,?_⟩
  have e1:∀x:List Int,sub (x++[0,0,0,0,0,0,0,0]) 0 8=p8 x:=fun x=>by simp[sub,p8]
  simp[outsR,out1R,out1,purR,e1,nthB]
theorem z_sSt {pre:List V→Prop} {F:List V→RT} {vs:List V} {hp:List Blk} {K:Ef→Prop}:sSt pre F vs hp K=@Wi (List V) ⟨fun vs=>pre vs∧@Wi RT ⟨fun o=>@Wi Ef ⟨K⟩ (expT hp.length o)⟩ (F vs)⟩ (vs.map und):=by
  simp only[qaa];rw[sSt]
theorem und_cs (s:List Int) (l:List V):und (.agg (cs s l))=.agg (cs s (l.map und0)):=by
  show V.agg (List.map und0 (s.map (V.int .u8)++l))=V.agg (s.map (V.int .u8)++l.map und0)
  rw[List.map_append,List.map_map]
  congr 2
end Am
