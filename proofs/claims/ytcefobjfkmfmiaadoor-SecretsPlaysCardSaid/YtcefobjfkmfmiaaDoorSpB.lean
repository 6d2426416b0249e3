/-
Working texts: contracts of functions, and the numbers behind them.
-/
import Derived.Test.YtcefobjfkmfmiaaDoorSpA
import Derived.Test.YtcefobjfkmfmiaaDoorAmShape
set_option linter.unusedSimpArgs false
set_option linter.unusedVariables false
set_option linter.unusedSectionVars false
set_option maxRecDepth 20000
namespace Am
open Go.Proofs
/-! ### SecretsPlays -/
def GAct15:List V→Prop:=Gs [GInt .u8,GSr .u8,GSr .u8]
def prePlays (ds:List D):Prop:=∃(p:List Int) (a:V) (l m:List Int),ds=[.s .u8 p,.v a,.v (.str l),.s .u8 m]∧Dig 256 p∧GSlr 3 GAct15 [a]∧Dig 256 l∧Dig 256 m
/-! ### The shadow's messages -/
def pmV (l:Nat):Bool→V
  | false=>.nils
  | true=>.slice 9 0 1 l l
def pmB (b:List Int):Bool→List Blk
  | false=>[]
  | true=>[.ints false .u8 b]
theorem pmV_f {l:Nat}:pmV l false=.nils:=by rw[pmV]
theorem pmV_t {l:Nat}:pmV l true=.slice 9 0 1 l l:=by rw[pmV]
theorem pmB_f {b:List Int}:pmB b false=[]:=by rw[pmB]
theorem pmB_t {b:List Int}:pmB b true=[.ints false .u8 b]:=by rw[pmB]
theorem trq {b now l:List Int} (hb:Dig 256 b) (hbl:b.length≤549755813888) (hn:Sec now) (hl:Dig 256 l) (hll:l.length≤1000000):preTr01 [.v (.rpc (csS (.rsl 1 b.length .u8 b) now) 0),.v (.str l)] :=
  .inr ⟨_,b,now,_,rfl,obj_rsl hb hbl hn,hl,hll⟩
theorem trf {b now l:List Int} (hb:Dig 256 b) (hbl:b.length≤549755813888) (hn:Sec now):FTr01 [.v (.rpc (csS (.rsl 1 b.length .u8 b) now) 0),.v (.str l)]=.many [.v (.ints .u8 (labkey now (trfC l) (sumS b))),.v (.ints .u8 (labkey now (trfS l) (sumS b)))]:=by
  have hg:=getO_obj (obj_rsl hb hbl hn)
  show Out.many [.v (.ints .u8 (labkey (getO (.rpc (csS (.rsl 1 b.length .u8 b) now) 0)).2 (trfC l) (sumS (getO (.rpc (csS (.rsl 1 b.length .u8 b) now) 0)).1))),.v (.ints .u8 (labkey (getO (.rpc (csS (.rsl 1 b.length .u8 b) now) 0)).2 (trfS l) (sumS (getO (.rpc (csS (.rsl 1 b.length .u8 b) now) 0)).1)))]=_
  rw[hg]
theorem flat2 {n k:Nat} {B C:List Int}:flat [V.rsl 1 n .u8 B,V.rsl 1 k .u8 C]=B++C:=by simp[flat]
theorem drv_lab {s l c:List Int} (hl:l.length≤200) (hc:c.length≤200):drv s l c=labkey s l c:=by
  rw[labkey,if_neg (fun h=>h.elim (fun h=>by omega) (fun h=>by omega))];rfl
theorem act15_of {cc:List V} (h:GAct15 cc):∃(k:Int) (B C:List Int),cc=[.int .u8 k,.rsl 1 B.length .u8 B,.rsl 1 C.length .u8 C]∧(0≤k∧k<256)∧Dig 256 B∧Dig 256 C:=by
  obtain⟨a0,t0,rfl,⟨k,hk,hkw⟩,a1,t1,rfl,⟨B,hB,-,hBw⟩,a2,t2,rfl,⟨C,hC,-,hCw⟩,rfl⟩:=h
  simp only[List.cons.injEq,and_true]at hk hB hC
  subst hk hB hC
  exact⟨k,B,C,rfl,wf_u8 hkw,dig_u8 hBw,dig_u8 hCw⟩
set_option maxHeartbeats 16000000 in
theorem lawSecretsPlays:∀ds,prePlays ds→Does Tryd.prog gl1 5 (injV ds 4) (gl1++injB true ds) (out (4+(injB true ds).length) (FTrue15 ds)):=by
  refine fdoesA (l:=[(18,s18),(27,sAdd),(23,sNx),(28,sTr01),(26,sAg),(21,sNew2),(29,sSm01),(30,sBnd),(22,sBeg2),(25,s25),(20,s20),(24,s24),(15,sMac2)]) mixed gl1_plain rfl Tryd.func5 comp5 compR5 nt5 (by simp only[List.mem_cons,List.not_mem_nil,or_false,forall_eq_or_imp,forall_eq];exact⟨ok18,okAdd,okNx,okTr01,okAg,okNew2,okSm01,okBnd,okBeg2,ok25,ok20,ok24,okMac2⟩) fun ds ⟨p,a,l,m,hd,hp,ha,hl,hm⟩ hA=>?_
  obtain⟨n,cs,hacs,hcl,hnl,hact⟩:=ha
  simp only[List.cons.injEq,and_true]at hacs
  subst hacs
  subst hd
  have hmx:Go.maxLen≤9223372036854775807:=by decide
  have sp:=qdd p
  have smm:=qdd m
  have pA:pre18 []:=rfl
  have fA:F18 []=.one (.v (.bool true)):=rfl
  simp only[sAdd,sNx,sTr01,sAg,sNew2,sSm01,sBnd,sBeg2,sMac2,shS1,s18,s25,s20,s24]
  by_cases h1:200<p.length
  · have c1:(200:Int)<(p.length:Int):=by omega
    simp only[ir5,rs5,gl1,FTrue15,pA,fA,c1,sub_zero,qdb,qai,List.length_cons,List.length_nil,Nat.reduceAdd,Nat.le_refl,Nat.reduceLeDiff,Nat.reduceLT,true_and,and_true,↓evA,evB,evs,evp,mkB,repB,blen,↓retQ,res,resAll,resOne,kill,apartOk,exp,injV,injB,pur,purs,purR,pursR,List.reduceReplicate,Nat.reduceMul,Nat.reduceSub,Nat.reduceEqDiff,Int.reduceToNat,Int.reduceLE,Int.reduceLT,Int.reduceEq,reduceCtorEq,↓reduceIte]
    exact out_bool rfl
  have c1:¬(200:Int)<(p.length:Int):=by omega
  by_cases h2:50<l.length
  · have c2:(50:Int)<(l.length:Int):=by omega
    simp only[ir5,rs5,gl1,FTrue15,pA,fA,c1,c2,sub_zero,qdb,qai,List.length_cons,List.length_nil,Nat.reduceAdd,Nat.le_refl,Nat.reduceLeDiff,Nat.reduceLT,true_and,and_true,↓evA,evB,evs,evp,mkB,repB,blen,↓retQ,res,resAll,resOne,kill,apartOk,exp,injV,injB,pur,purs,purR,pursR,List.reduceReplicate,Nat.reduceMul,Nat.reduceSub,Nat.reduceEqDiff,Int.reduceToNat,Int.reduceLE,Int.reduceLT,Int.reduceEq,reduceCtorEq,↓reduceIte]
    exact out_bool rfl
  have c2:¬(50:Int)<(l.length:Int):=by omega
  by_cases h3:200<m.length
  · have c3:(200:Int)<(m.length:Int):=by omega
    simp only[ir5,rs5,gl1,FTrue15,pA,fA,c1,c2,c3,sub_zero,qdb,qai,List.length_cons,List.length_nil,Nat.reduceAdd,Nat.le_refl,Nat.reduceLeDiff,Nat.reduceLT,true_and,and_true,↓evA,evB,evs,evp,mkB,repB,blen,↓retQ,res,resAll,resOne,kill,apartOk,exp,injV,injB,pur,purs,purR,pursR,List.reduceReplicate,Nat.reduceMul,Nat.reduceSub,Nat.reduceEqDiff,Int.reduceToNat,Int.reduceLE,Int.reduceLT,Int.reduceEq,reduceCtorEq,↓reduceIte]
    exact out_bool rfl
  have c3:¬(200:Int)<(m.length:Int):=by omega
  have dn:Dig 256 ([]:List Int):=fun x hx=>by simp at hx
  have flq:∀(n:Nat) (xs:List Int),flat [V.rsl 1 n .u8 xs]=xs:=fun n xs=>by simp[flat]
  have q1:preNew2 [.v (.rsl 1 p.length .u8 p)]:=⟨_,rfl,part_rsl hp,by rw[flq];omega⟩
  have f1:F21 [.v (.rsl 1 p.length .u8 p)]=([],.one (.p (fsS [] (hmac zz (pskOf (flat [V.rsl 1 p.length .u8 p])))))):=rfl
  have q2:preBeg2 [.v (.rsl 1 p.length .u8 p)]:=⟨p,rfl,hp,by omega⟩
  have f2:FBeg2 [.v (.rsl 1 p.length .u8 p)]=.one (.v (.ints .u8 (hmac zz (pskOf p)))):=rfl
  rw[flq]at f1
  have hH1:Sec (hmac zz (pskOf p)):=⟨hmac_len _ _,hmac_dig _ _⟩
  generalize hmac zz (pskOf p)=h0 at *
  have hH1l:=hH1.1
  have fin1:spl (V.nils::List.replicate 32 (V.int .u8 0)) 1 (h0.map (V.int .u8))=.nils::h0.map (V.int .u8):=by simp[spl,hH1l]
  simp only[List.reduceReplicate]at fin1
  simp only[fsS,List.length_nil]at f1
  simp only[ir5,rs5,gl1,FTrue15,pA,fA,c1,c2,c3,sp,q1,f1,q2,f2,hH1l,fin1,injs_ints,blks_ints,cnts_ints,List.length_map,sub_zero,qdb,qai,List.length_cons,List.length_nil,Nat.reduceAdd,Nat.le_refl,Nat.reduceLeDiff,Nat.reduceLT,true_and,and_true,↓qar,↓qan,↓qao,↓qap,↓qam,↓qaj,↓qak,↓qaq,↓qal,idsEs,idsE,idss,killB,effE,stA,wBlk,deads,nwA,cntA,cnts,cnt,valO,blkO,inj,injs,blk,blks,outA,outR,outE,outEs,sids,List.nodup_cons,List.nodup_nil,List.not_mem_nil,List.mem_cons,or_false,false_or,not_or,↓evA,evB,evs,evp,mkB,repB,blen,↓retQ,res,resAll,resOne,kill,apartOk,exp,injV,injB,pur,purs,purR,pursR,List.reduceReplicate,Nat.reduceMul,Nat.reduceSub,Nat.reduceEqDiff,Int.reduceToNat,Int.reduceLE,Int.reduceLT,Int.reduceEq,reduceCtorEq,↓reduceIte]
  refine awp_loopA (n:=190) hA [2,3,9,10,42,43,44] (by decide +kernel) (fun x:Nat×List Int×List Int×Bool=>[.str l,.slice 5 0 1 m.length m.length,.ptr 6 0,.ptr 8 0,.rcs 3 n cs,.int .i64 (n:Int),.int .i64 (x.1:Int)])
    (fun x=>[.ints true .u64 roots,.ints true .u64 roots,.ints true .u64 seconds,.dead,.ints true .u8 p,.ints true .u8 m,.cells false (.slice 7 0 1 x.2.1.length x.2.1.length::x.2.2.1.map (V.int .u8)),.ints false .u8 x.2.1,.cells false (pmV x.2.1.length x.2.2.2::x.2.2.1.map (V.int .u8))]++pmB x.2.1 x.2.2.2)
    (fun x=>x.1≤n∧x.1≤9∧Dig 256 x.2.1∧x.2.1.length≤400*x.1∧Sec x.2.2.1∧(x.2.2.2=false→x.2.1=[])) (fun x=>n-x.1) (0,[],h0,false) ?_ ⟨by omega,by omega,dn,by simp,hH1,fun _=>rfl⟩ ?_
  · refine Hd.same ?_
    simp only[pmV_f,pmB_f,List.length_nil,show ((0:Nat):Int)=0 from rfl,↓evA,evB,evs,evp,mkB,repB,blen,↓retQ,res,resAll,resOne,kill,apartOk,exp,injV,injB,pur,purs,purR,pursR,List.reduceReplicate,Nat.reduceAdd,Nat.reduceMul,Nat.reduceSub,Nat.reduceEqDiff,Nat.reduceLT,Int.reduceToNat,Int.reduceLE,Int.reduceLT,Int.reduceEq,reduceCtorEq,↓reduceIte]
  rintro ⟨j,b,now,e⟩ ⟨hj,hj9,hb,hbl,hn,he⟩ K hK
  simp only at hj hj9 hb hbl hn he hK
  simp only[s18,s25,s20,s24,sAdd,sNx,sTr01,sAg,sNew2,sSm01,sBnd,sBeg2,sMac2,shS1]
  have hnl:=hn.1
  have sb:=qdd b
  have rN:∀(hp hk:List Blk) (J:List E→Prop),rdEs hp hk shN (now.map (V.int .u8)) J=J (now.map fun x=>.v (.int .u8 x)):=fun hp hk J=>rdEs_N hnl
  have e1:∀c:V,sub (c::now.map (V.int .u8)) 1 32=now.map (V.int .u8):=fun c=>by
    show (now.map (V.int .u8)).take 32=_
    exact List.take_of_length_le (by simp[hnl])
  have e2:agI (now.map (V.int .u8))=.ints .u8 now:=agI_ints (fun h=>by rw[h]at hnl;cases hnl)
  by_cases hlt:j<n
  · have d1:(j:Int)<(n:Int):=by omega
    have wj:Go.IntKind.i64.wrap ((j:Int)+1)=((j+1:Nat):Int):=by rw[wrap_i64];omega
    obtain⟨kd,B,C,heq,hkd,hBd,hCd⟩:=act15_of (hact j hlt)
    have hi3:j*3+3≤cs.length:=by omega
    obtain⟨q,rfl⟩:=Int.eq_ofNat_of_zero_le hkd.1
    have n4:¬(4:Int)=0:=by decide
    have w4:((Int.ofNat q:Int)).tmod 4=((q%4:Nat):Int):=tmod_nat (k:=4)
    simp only[Int.ofNat_eq_natCast]at w4 heq
    generalize q%4=r at *
    have g3:spl [V.int .u8 0,.nils,.nils] 0 [V.int .u8 (q:Int),.rsl 1 B.length .u8 B,.rsl 1 C.length .u8 C]=[V.int .u8 (q:Int),.rsl 1 B.length .u8 B,.rsl 1 C.length .u8 C]:=rfl
    have ga:agI [V.int .u8 (q:Int),.rsl 1 B.length .u8 B,.rsl 1 C.length .u8 C]=.agg [V.int .u8 (q:Int),.rsl 1 B.length .u8 B,.rsl 1 C.length .u8 C]:=rfl
    cases e with
    | false =>
      by_cases hx1:8<j
      · have x1:(8:Int)<(j:Int):=by omega
        obtain rfl:=he rfl
        have hob:=obj_rsl hb (by omega) hn
        have uS:pre24 [.s .u8 ([]:List Int)]:=⟨([]:List Int),rfl,hb,by omega⟩
        have gS:F24 [.s .u8 ([]:List Int)]=.one (.v (.ints .u8 (sumS ([]:List Int)))):=rfl
        have u0:pre24 [.s .u8 []]:=⟨[],rfl,dn,by simp⟩
        have g0:F24 [.s .u8 []]=.one (.v (.ints .u8 (sumS []))):=rfl
        have uM:pre24 [.s .u8 m]:=⟨m,rfl,hm,by omega⟩
        have gM:F24 [.s .u8 m]=.one (.v (.ints .u8 (sumS m))):=rfl
        have ut:=trq (l:=l) hb (by omega) hn hl (by omega)
        have gt:=trf (l:=l) hb (by omega) hn
        have us0:preSm01 [.v (.rpc (csS (.rsl 1 ([]:List Int).length .u8 ([]:List Int)) now) 0),.v .nils]:=.inl ⟨_,([]:List Int),now,rfl,hob⟩
        have gs0:FSm01 [.v (.rpc (csS (.rsl 1 ([]:List Int).length .u8 ([]:List Int)) now) 0),.v .nils]=.one (.v (.ints .u8 (sumS (getO (.rpc (csS (.rsl 1 ([]:List Int).length .u8 ([]:List Int)) now) 0)).1))):=rfl
        have us1:preSm01 [.v (.rpc (csS (.rsl 1 ([]:List Int).length .u8 ([]:List Int)) now) 0),.v (.rcs 1 1 [.rsl 1 m.length .u8 m])]:=.inr ⟨_,_,([]:List Int),now,rfl,hob,part_rsl hm,by rw[flq];omega⟩
        have gs1:FSm01 [.v (.rpc (csS (.rsl 1 ([]:List Int).length .u8 ([]:List Int)) now) 0),.v (.rcs 1 1 [.rsl 1 m.length .u8 m])]=.one (.v (.ints .u8 (sumS ((getO (.rpc (csS (.rsl 1 ([]:List Int).length .u8 ([]:List Int)) now) 0)).1++flat [V.rsl 1 m.length .u8 m])))):=rfl
        have ub:preBnd [.v (.rpc (csS (.rsl 1 ([]:List Int).length .u8 ([]:List Int)) now) 0),.v (.rsl 1 m.length .u8 m)]:=⟨_,_,([]:List Int),now,rfl,hob,part_rsl hm,by rw[flq];omega⟩
        have gb:FBnd [.v (.rpc (csS (.rsl 1 ([]:List Int).length .u8 ([]:List Int)) now) 0),.v (.rsl 1 m.length .u8 m)]=.one (.v (.ints .u8 (finS (labkey (getO (.rpc (csS (.rsl 1 ([]:List Int).length .u8 ([]:List Int)) now) 0)).2 lbnd (sumS [])) (sumS (flat [V.rsl 1 m.length .u8 m]))))):=rfl
        rw[getO_obj hob]at gs0 gs1 gb
        rw[flq]at gs1 gb
        have hS:=sumS_sec ([]:List Int)
        have hS0:=sumS_sec []
        have hSm:=sumS_sec m
        have dC:Dig 256 (trfC l):=fun x hx=>by
          simp only[trfC,List.mem_cons,List.mem_append,List.not_mem_nil,or_false]at hx
          rcases hx with rfl | rfl | hx | rfl | rfl | rfl | rfl | rfl | rfl | rfl | rfl
          all_goals first | exact hl x hx | decide
        have dS:Dig 256 (trfS l):=fun x hx=>by
          simp only[trfS,List.mem_cons,List.mem_append,List.not_mem_nil,or_false]at hx
          rcases hx with rfl | rfl | hx | rfl | rfl | rfl | rfl | rfl | rfl | rfl | rfl
          all_goals first | exact hl x hx | decide
        have lC:(trfC l).length≤200:=by simp[trfC];omega
        have lS:(trfS l).length≤200:=by simp[trfS];omega
        have vC:preDrv [.v (.ints .u8 now),.v (.str (trfC l)),.s .u8 (sumS ([]:List Int))]:=⟨_,_,_,rfl,hn,dC,by omega,hS.2,by rw[hS.1];decide⟩
        have wC:F25 [.v (.ints .u8 now),.v (.str (trfC l)),.s .u8 (sumS ([]:List Int))]=.one (.v (.ints .u8 (labkey now (trfC l) (sumS ([]:List Int))))):=by
          rw[←drv_lab lC (by rw[hS.1];decide)];rfl
        have vS:preDrv [.v (.ints .u8 now),.v (.str (trfS l)),.s .u8 (sumS ([]:List Int))]:=⟨_,_,_,rfl,hn,dS,by omega,hS.2,by rw[hS.1];decide⟩
        have wS:F25 [.v (.ints .u8 now),.v (.str (trfS l)),.s .u8 (sumS ([]:List Int))]=.one (.v (.ints .u8 (labkey now (trfS l) (sumS ([]:List Int))))):=by
          rw[←drv_lab lS (by rw[hS.1];decide)];rfl
        have vB:preDrv [.v (.ints .u8 now),.v (.str lbnd),.s .u8 (sumS [])]:=⟨_,_,_,rfl,hn,lit_dig rfl,by decide,hS0.2,by rw[hS0.1];decide⟩
        have wB:F25 [.v (.ints .u8 now),.v (.str lbnd),.s .u8 (sumS [])]=.one (.v (.ints .u8 (labkey now lbnd (sumS [])))):=by
          rw[←drv_lab (by decide) (by rw[hS0.1];decide)];rfl
        have vF:preSS [.v (.ints .u8 (labkey now lbnd (sumS []))),.v (.ints .u8 (sumS m))]:=⟨_,_,rfl,labkey_sec _ _ _,hSm⟩
        have wF:F20 [.v (.ints .u8 (labkey now lbnd (sumS []))),.v (.ints .u8 (sumS m))]=.one (.v (.ints .u8 (finS (labkey now lbnd (sumS [])) (sumS m)))):=rfl
        have kA:=(labkey_sec now (trfC l) (sumS ([]:List Int))).1
        have kB:=(labkey_sec now (trfS l) (sumS ([]:List Int))).1
        have kC:=(labkey_sec now lbnd (sumS [])).1
        have kF:(finS (labkey now lbnd (sumS [])) (sumS m)).length=32:=hmac_len _ _
        simp only[List.length_nil,List.nil_append]at ut gt us0 gs0 us1 gs1 ub gb
        generalize finS (labkey now lbnd (sumS [])) (sumS m)=X4 at *
        generalize labkey now (trfC l) (sumS ([]:List Int))=X1 at *
        generalize labkey now (trfS l) (sumS ([]:List Int))=X2 at *
        generalize labkey now lbnd (sumS [])=X3 at *
        have l1:=hS.1
        have l0:=hS0.1
        have lm:=hSm.1
        generalize sumS []=S0 at *
        generalize sumS m=Sm at *
        have z:∀{Z:List Int},Z.length=32→spl [0,0,0,0,0,0,0,0,0,0,0,0,0,0,0,0,0,0,0,0,0,0,0,0,0,0,0,0,0,0,0,0] 0 Z=Z:=fun h=>qdb (by simp[h])
        have s32:∀{Z:List Int},Z.length=32→sub Z 0 32=Z:=fun h=>sub_zero h
        have z1:=z kA
        have z2:=z kB
        have z3:=z l1
        have z4:=z l0
        have z5:=z lm
        have y1:=s32 kA
        have y2:=s32 kB
        have y3:=s32 l1
        have y4:=s32 l0
        have y5:=s32 lm
        simp only[csS]at ut gt us0 gs0 us1 gs1 ub gb
        simp only[trfC]at vC wC
        simp only[trfS]at vS wS
        simp only[lbnd]at vB wB
        simp only[d1,wj,heq,n4,w4,g3,ga,x1,pmV_f,pmB_f,List.length_nil,uS,gS,u0,g0,uM,gM,ut,gt,us0,gs0,us1,gs1,ub,gb,vC,wC,vS,wS,vB,wB,vF,wF,kA,kB,kC,kF,l1,l0,lm,z1,z2,z3,z4,z5,y1,y2,y3,y4,y5,↓rN,hnl,e1,e2,sb,smm,eq_self,injs_ints,blks_ints,cnts_ints,idsEs_N,↓frzs_ints,List.length_map,sub_zero,qdb,qai,List.length_cons,Nat.reduceAdd,Nat.le_refl,Nat.reduceLeDiff,Nat.reduceLT,true_and,and_true,↓qar,↓qan,↓qao,↓qap,↓qam,↓qaj,↓qak,↓qaq,↓qal,idsEs,idsE,idss,killB,effE,stA,wBlk,deads,nwA,cntA,cnts,cnt,valO,blkO,inj,injs,blk,blks,outA,outR,outE,outEs,sids,List.nodup_cons,List.nodup_nil,List.not_mem_nil,List.mem_cons,or_false,false_or,not_or,↓evA,evB,evs,evp,mkB,repB,blen,↓retQ,res,resAll,resOne,kill,apartOk,exp,injV,injB,pur,purs,purR,pursR,List.reduceReplicate,Nat.reduceMul,Nat.reduceSub,Nat.reduceEqDiff,Int.reduceToNat,Int.reduceLE,Int.reduceLT,Int.reduceEq,reduceCtorEq,↓reduceIte]
        repeat(first | exact out_bool rfl | refine And.intro (by omega) ?_)
      have x1:¬(8:Int)<(j:Int):=by omega
      by_cases hx2:200<B.length
      · have x2:(200:Int)<(B.length:Int):=by omega
        obtain rfl:=he rfl
        have hob:=obj_rsl hb (by omega) hn
        have uS:pre24 [.s .u8 ([]:List Int)]:=⟨([]:List Int),rfl,hb,by omega⟩
        have gS:F24 [.s .u8 ([]:List Int)]=.one (.v (.ints .u8 (sumS ([]:List Int)))):=rfl
        have u0:pre24 [.s .u8 []]:=⟨[],rfl,dn,by simp⟩
        have g0:F24 [.s .u8 []]=.one (.v (.ints .u8 (sumS []))):=rfl
        have uM:pre24 [.s .u8 m]:=⟨m,rfl,hm,by omega⟩
        have gM:F24 [.s .u8 m]=.one (.v (.ints .u8 (sumS m))):=rfl
        have ut:=trq (l:=l) hb (by omega) hn hl (by omega)
        have gt:=trf (l:=l) hb (by omega) hn
        have us0:preSm01 [.v (.rpc (csS (.rsl 1 ([]:List Int).length .u8 ([]:List Int)) now) 0),.v .nils]:=.inl ⟨_,([]:List Int),now,rfl,hob⟩
        have gs0:FSm01 [.v (.rpc (csS (.rsl 1 ([]:List Int).length .u8 ([]:List Int)) now) 0),.v .nils]=.one (.v (.ints .u8 (sumS (getO (.rpc (csS (.rsl 1 ([]:List Int).length .u8 ([]:List Int)) now) 0)).1))):=rfl
        have us1:preSm01 [.v (.rpc (csS (.rsl 1 ([]:List Int).length .u8 ([]:List Int)) now) 0),.v (.rcs 1 1 [.rsl 1 m.length .u8 m])]:=.inr ⟨_,_,([]:List Int),now,rfl,hob,part_rsl hm,by rw[flq];omega⟩
        have gs1:FSm01 [.v (.rpc (csS (.rsl 1 ([]:List Int).length .u8 ([]:List Int)) now) 0),.v (.rcs 1 1 [.rsl 1 m.length .u8 m])]=.one (.v (.ints .u8 (sumS ((getO (.rpc (csS (.rsl 1 ([]:List Int).length .u8 ([]:List Int)) now) 0)).1++flat [V.rsl 1 m.length .u8 m])))):=rfl
        have ub:preBnd [.v (.rpc (csS (.rsl 1 ([]:List Int).length .u8 ([]:List Int)) now) 0),.v (.rsl 1 m.length .u8 m)]:=⟨_,_,([]:List Int),now,rfl,hob,part_rsl hm,by rw[flq];omega⟩
        have gb:FBnd [.v (.rpc (csS (.rsl 1 ([]:List Int).length .u8 ([]:List Int)) now) 0),.v (.rsl 1 m.length .u8 m)]=.one (.v (.ints .u8 (finS (labkey (getO (.rpc (csS (.rsl 1 ([]:List Int).length .u8 ([]:List Int)) now) 0)).2 lbnd (sumS [])) (sumS (flat [V.rsl 1 m.length .u8 m]))))):=rfl
        rw[getO_obj hob]at gs0 gs1 gb
        rw[flq]at gs1 gb
        have hS:=sumS_sec ([]:List Int)
        have hS0:=sumS_sec []
        have hSm:=sumS_sec m
        have dC:Dig 256 (trfC l):=fun x hx=>by
          simp only[trfC,List.mem_cons,List.mem_append,List.not_mem_nil,or_false]at hx
          rcases hx with rfl | rfl | hx | rfl | rfl | rfl | rfl | rfl | rfl | rfl | rfl
          all_goals first | exact hl x hx | decide
        have dS:Dig 256 (trfS l):=fun x hx=>by
          simp only[trfS,List.mem_cons,List.mem_append,List.not_mem_nil,or_false]at hx
          rcases hx with rfl | rfl | hx | rfl | rfl | rfl | rfl | rfl | rfl | rfl | rfl
          all_goals first | exact hl x hx | decide
        have lC:(trfC l).length≤200:=by simp[trfC];omega
        have lS:(trfS l).length≤200:=by simp[trfS];omega
        have vC:preDrv [.v (.ints .u8 now),.v (.str (trfC l)),.s .u8 (sumS ([]:List Int))]:=⟨_,_,_,rfl,hn,dC,by omega,hS.2,by rw[hS.1];decide⟩
        have wC:F25 [.v (.ints .u8 now),.v (.str (trfC l)),.s .u8 (sumS ([]:List Int))]=.one (.v (.ints .u8 (labkey now (trfC l) (sumS ([]:List Int))))):=by
          rw[←drv_lab lC (by rw[hS.1];decide)];rfl
        have vS:preDrv [.v (.ints .u8 now),.v (.str (trfS l)),.s .u8 (sumS ([]:List Int))]:=⟨_,_,_,rfl,hn,dS,by omega,hS.2,by rw[hS.1];decide⟩
        have wS:F25 [.v (.ints .u8 now),.v (.str (trfS l)),.s .u8 (sumS ([]:List Int))]=.one (.v (.ints .u8 (labkey now (trfS l) (sumS ([]:List Int))))):=by
          rw[←drv_lab lS (by rw[hS.1];decide)];rfl
        have vB:preDrv [.v (.ints .u8 now),.v (.str lbnd),.s .u8 (sumS [])]:=⟨_,_,_,rfl,hn,lit_dig rfl,by decide,hS0.2,by rw[hS0.1];decide⟩
        have wB:F25 [.v (.ints .u8 now),.v (.str lbnd),.s .u8 (sumS [])]=.one (.v (.ints .u8 (labkey now lbnd (sumS [])))):=by
          rw[←drv_lab (by decide) (by rw[hS0.1];decide)];rfl
        have vF:preSS [.v (.ints .u8 (labkey now lbnd (sumS []))),.v (.ints .u8 (sumS m))]:=⟨_,_,rfl,labkey_sec _ _ _,hSm⟩
        have wF:F20 [.v (.ints .u8 (labkey now lbnd (sumS []))),.v (.ints .u8 (sumS m))]=.one (.v (.ints .u8 (finS (labkey now lbnd (sumS [])) (sumS m)))):=rfl
        have kA:=(labkey_sec now (trfC l) (sumS ([]:List Int))).1
        have kB:=(labkey_sec now (trfS l) (sumS ([]:List Int))).1
        have kC:=(labkey_sec now lbnd (sumS [])).1
        have kF:(finS (labkey now lbnd (sumS [])) (sumS m)).length=32:=hmac_len _ _
        simp only[List.length_nil,List.nil_append]at ut gt us0 gs0 us1 gs1 ub gb
        generalize finS (labkey now lbnd (sumS [])) (sumS m)=X4 at *
        generalize labkey now (trfC l) (sumS ([]:List Int))=X1 at *
        generalize labkey now (trfS l) (sumS ([]:List Int))=X2 at *
        generalize labkey now lbnd (sumS [])=X3 at *
        have l1:=hS.1
        have l0:=hS0.1
        have lm:=hSm.1
        generalize sumS []=S0 at *
        generalize sumS m=Sm at *
        have z:∀{Z:List Int},Z.length=32→spl [0,0,0,0,0,0,0,0,0,0,0,0,0,0,0,0,0,0,0,0,0,0,0,0,0,0,0,0,0,0,0,0] 0 Z=Z:=fun h=>qdb (by simp[h])
        have s32:∀{Z:List Int},Z.length=32→sub Z 0 32=Z:=fun h=>sub_zero h
        have z1:=z kA
        have z2:=z kB
        have z3:=z l1
        have z4:=z l0
        have z5:=z lm
        have y1:=s32 kA
        have y2:=s32 kB
        have y3:=s32 l1
        have y4:=s32 l0
        have y5:=s32 lm
        simp only[csS]at ut gt us0 gs0 us1 gs1 ub gb
        simp only[trfC]at vC wC
        simp only[trfS]at vS wS
        simp only[lbnd]at vB wB
        simp only[d1,wj,heq,n4,w4,g3,ga,x1,x2,pmV_f,pmB_f,List.length_nil,uS,gS,u0,g0,uM,gM,ut,gt,us0,gs0,us1,gs1,ub,gb,vC,wC,vS,wS,vB,wB,vF,wF,kA,kB,kC,kF,l1,l0,lm,z1,z2,z3,z4,z5,y1,y2,y3,y4,y5,↓rN,hnl,e1,e2,sb,smm,eq_self,injs_ints,blks_ints,cnts_ints,idsEs_N,↓frzs_ints,List.length_map,sub_zero,qdb,qai,List.length_cons,Nat.reduceAdd,Nat.le_refl,Nat.reduceLeDiff,Nat.reduceLT,true_and,and_true,↓qar,↓qan,↓qao,↓qap,↓qam,↓qaj,↓qak,↓qaq,↓qal,idsEs,idsE,idss,killB,effE,stA,wBlk,deads,nwA,cntA,cnts,cnt,valO,blkO,inj,injs,blk,blks,outA,outR,outE,outEs,sids,List.nodup_cons,List.nodup_nil,List.not_mem_nil,List.mem_cons,or_false,false_or,not_or,↓evA,evB,evs,evp,mkB,repB,blen,↓retQ,res,resAll,resOne,kill,apartOk,exp,injV,injB,pur,purs,purR,pursR,List.reduceReplicate,Nat.reduceMul,Nat.reduceSub,Nat.reduceEqDiff,Int.reduceToNat,Int.reduceLE,Int.reduceLT,Int.reduceEq,reduceCtorEq,↓reduceIte]
        repeat(first | exact out_bool rfl | refine And.intro (by omega) ?_)
      have x2:¬(200:Int)<(B.length:Int):=by omega
      by_cases hx3:200<C.length
      · have x3:(200:Int)<(C.length:Int):=by omega
        obtain rfl:=he rfl
        have hob:=obj_rsl hb (by omega) hn
        have uS:pre24 [.s .u8 ([]:List Int)]:=⟨([]:List Int),rfl,hb,by omega⟩
        have gS:F24 [.s .u8 ([]:List Int)]=.one (.v (.ints .u8 (sumS ([]:List Int)))):=rfl
        have u0:pre24 [.s .u8 []]:=⟨[],rfl,dn,by simp⟩
        have g0:F24 [.s .u8 []]=.one (.v (.ints .u8 (sumS []))):=rfl
        have uM:pre24 [.s .u8 m]:=⟨m,rfl,hm,by omega⟩
        have gM:F24 [.s .u8 m]=.one (.v (.ints .u8 (sumS m))):=rfl
        have ut:=trq (l:=l) hb (by omega) hn hl (by omega)
        have gt:=trf (l:=l) hb (by omega) hn
        have us0:preSm01 [.v (.rpc (csS (.rsl 1 ([]:List Int).length .u8 ([]:List Int)) now) 0),.v .nils]:=.inl ⟨_,([]:List Int),now,rfl,hob⟩
        have gs0:FSm01 [.v (.rpc (csS (.rsl 1 ([]:List Int).length .u8 ([]:List Int)) now) 0),.v .nils]=.one (.v (.ints .u8 (sumS (getO (.rpc (csS (.rsl 1 ([]:List Int).length .u8 ([]:List Int)) now) 0)).1))):=rfl
        have us1:preSm01 [.v (.rpc (csS (.rsl 1 ([]:List Int).length .u8 ([]:List Int)) now) 0),.v (.rcs 1 1 [.rsl 1 m.length .u8 m])]:=.inr ⟨_,_,([]:List Int),now,rfl,hob,part_rsl hm,by rw[flq];omega⟩
        have gs1:FSm01 [.v (.rpc (csS (.rsl 1 ([]:List Int).length .u8 ([]:List Int)) now) 0),.v (.rcs 1 1 [.rsl 1 m.length .u8 m])]=.one (.v (.ints .u8 (sumS ((getO (.rpc (csS (.rsl 1 ([]:List Int).length .u8 ([]:List Int)) now) 0)).1++flat [V.rsl 1 m.length .u8 m])))):=rfl
        have ub:preBnd [.v (.rpc (csS (.rsl 1 ([]:List Int).length .u8 ([]:List Int)) now) 0),.v (.rsl 1 m.length .u8 m)]:=⟨_,_,([]:List Int),now,rfl,hob,part_rsl hm,by rw[flq];omega⟩
        have gb:FBnd [.v (.rpc (csS (.rsl 1 ([]:List Int).length .u8 ([]:List Int)) now) 0),.v (.rsl 1 m.length .u8 m)]=.one (.v (.ints .u8 (finS (labkey (getO (.rpc (csS (.rsl 1 ([]:List Int).length .u8 ([]:List Int)) now) 0)).2 lbnd (sumS [])) (sumS (flat [V.rsl 1 m.length .u8 m]))))):=rfl
        rw[getO_obj hob]at gs0 gs1 gb
        rw[flq]at gs1 gb
        have hS:=sumS_sec ([]:List Int)
        have hS0:=sumS_sec []
        have hSm:=sumS_sec m
        have dC:Dig 256 (trfC l):=fun x hx=>by
          simp only[trfC,List.mem_cons,List.mem_append,List.not_mem_nil,or_false]at hx
          rcases hx with rfl | rfl | hx | rfl | rfl | rfl | rfl | rfl | rfl | rfl | rfl
          all_goals first | exact hl x hx | decide
        have dS:Dig 256 (trfS l):=fun x hx=>by
          simp only[trfS,List.mem_cons,List.mem_append,List.not_mem_nil,or_false]at hx
          rcases hx with rfl | rfl | hx | rfl | rfl | rfl | rfl | rfl | rfl | rfl | rfl
          all_goals first | exact hl x hx | decide
        have lC:(trfC l).length≤200:=by simp[trfC];omega
        have lS:(trfS l).length≤200:=by simp[trfS];omega
        have vC:preDrv [.v (.ints .u8 now),.v (.str (trfC l)),.s .u8 (sumS ([]:List Int))]:=⟨_,_,_,rfl,hn,dC,by omega,hS.2,by rw[hS.1];decide⟩
        have wC:F25 [.v (.ints .u8 now),.v (.str (trfC l)),.s .u8 (sumS ([]:List Int))]=.one (.v (.ints .u8 (labkey now (trfC l) (sumS ([]:List Int))))):=by
          rw[←drv_lab lC (by rw[hS.1];decide)];rfl
        have vS:preDrv [.v (.ints .u8 now),.v (.str (trfS l)),.s .u8 (sumS ([]:List Int))]:=⟨_,_,_,rfl,hn,dS,by omega,hS.2,by rw[hS.1];decide⟩
        have wS:F25 [.v (.ints .u8 now),.v (.str (trfS l)),.s .u8 (sumS ([]:List Int))]=.one (.v (.ints .u8 (labkey now (trfS l) (sumS ([]:List Int))))):=by
          rw[←drv_lab lS (by rw[hS.1];decide)];rfl
        have vB:preDrv [.v (.ints .u8 now),.v (.str lbnd),.s .u8 (sumS [])]:=⟨_,_,_,rfl,hn,lit_dig rfl,by decide,hS0.2,by rw[hS0.1];decide⟩
        have wB:F25 [.v (.ints .u8 now),.v (.str lbnd),.s .u8 (sumS [])]=.one (.v (.ints .u8 (labkey now lbnd (sumS [])))):=by
          rw[←drv_lab (by decide) (by rw[hS0.1];decide)];rfl
        have vF:preSS [.v (.ints .u8 (labkey now lbnd (sumS []))),.v (.ints .u8 (sumS m))]:=⟨_,_,rfl,labkey_sec _ _ _,hSm⟩
        have wF:F20 [.v (.ints .u8 (labkey now lbnd (sumS []))),.v (.ints .u8 (sumS m))]=.one (.v (.ints .u8 (finS (labkey now lbnd (sumS [])) (sumS m)))):=rfl
        have kA:=(labkey_sec now (trfC l) (sumS ([]:List Int))).1
        have kB:=(labkey_sec now (trfS l) (sumS ([]:List Int))).1
        have kC:=(labkey_sec now lbnd (sumS [])).1
        have kF:(finS (labkey now lbnd (sumS [])) (sumS m)).length=32:=hmac_len _ _
        simp only[List.length_nil,List.nil_append]at ut gt us0 gs0 us1 gs1 ub gb
        generalize finS (labkey now lbnd (sumS [])) (sumS m)=X4 at *
        generalize labkey now (trfC l) (sumS ([]:List Int))=X1 at *
        generalize labkey now (trfS l) (sumS ([]:List Int))=X2 at *
        generalize labkey now lbnd (sumS [])=X3 at *
        have l1:=hS.1
        have l0:=hS0.1
        have lm:=hSm.1
        generalize sumS []=S0 at *
        generalize sumS m=Sm at *
        have z:∀{Z:List Int},Z.length=32→spl [0,0,0,0,0,0,0,0,0,0,0,0,0,0,0,0,0,0,0,0,0,0,0,0,0,0,0,0,0,0,0,0] 0 Z=Z:=fun h=>qdb (by simp[h])
        have s32:∀{Z:List Int},Z.length=32→sub Z 0 32=Z:=fun h=>sub_zero h
        have z1:=z kA
        have z2:=z kB
        have z3:=z l1
        have z4:=z l0
        have z5:=z lm
        have y1:=s32 kA
        have y2:=s32 kB
        have y3:=s32 l1
        have y4:=s32 l0
        have y5:=s32 lm
        simp only[csS]at ut gt us0 gs0 us1 gs1 ub gb
        simp only[trfC]at vC wC
        simp only[trfS]at vS wS
        simp only[lbnd]at vB wB
        simp only[d1,wj,heq,n4,w4,g3,ga,x1,x2,x3,pmV_f,pmB_f,List.length_nil,uS,gS,u0,g0,uM,gM,ut,gt,us0,gs0,us1,gs1,ub,gb,vC,wC,vS,wS,vB,wB,vF,wF,kA,kB,kC,kF,l1,l0,lm,z1,z2,z3,z4,z5,y1,y2,y3,y4,y5,↓rN,hnl,e1,e2,sb,smm,eq_self,injs_ints,blks_ints,cnts_ints,idsEs_N,↓frzs_ints,List.length_map,sub_zero,qdb,qai,List.length_cons,Nat.reduceAdd,Nat.le_refl,Nat.reduceLeDiff,Nat.reduceLT,true_and,and_true,↓qar,↓qan,↓qao,↓qap,↓qam,↓qaj,↓qak,↓qaq,↓qal,idsEs,idsE,idss,killB,effE,stA,wBlk,deads,nwA,cntA,cnts,cnt,valO,blkO,inj,injs,blk,blks,outA,outR,outE,outEs,sids,List.nodup_cons,List.nodup_nil,List.not_mem_nil,List.mem_cons,or_false,false_or,not_or,↓evA,evB,evs,evp,mkB,repB,blen,↓retQ,res,resAll,resOne,kill,apartOk,exp,injV,injB,pur,purs,purR,pursR,List.reduceReplicate,Nat.reduceMul,Nat.reduceSub,Nat.reduceEqDiff,Int.reduceToNat,Int.reduceLE,Int.reduceLT,Int.reduceEq,reduceCtorEq,↓reduceIte]
        repeat(first | exact out_bool rfl | refine And.intro (by omega) ?_)
      have x3:¬(200:Int)<(C.length:Int):=by omega
      by_cases c2:(r:Int)=2
      · have qn:preNx [.p (fsS b now),.v (.rsl 1 B.length .u8 B)]:=⟨_,_,_,rfl,hb,by omega,hn,part_rsl hBd,by rw[flq];omega⟩
        have fn:FNx [.p (fsS b now),.v (.rsl 1 B.length .u8 B)]=([fsS b (nextS now B)],.many []):=by
          show ([fsS b (nextS (nowE (now.map fun x=>.v (.int .u8 x))) (flat [V.rsl 1 B.length .u8 B]))],EOut.many [])=_
          rw[nowE_ints,flq]
        have u0:pre24 [.s .u8 []]:=⟨[],rfl,dn,by simp⟩
        have g0:F24 [.s .u8 []]=.one (.v (.ints .u8 (sumS []))):=rfl
        have hS0:=sumS_sec []
        have vD:preDrv [.v (.ints .u8 now),.v (.str ldrv),.s .u8 (sumS [])]:=⟨_,_,_,rfl,hn,lit_dig rfl,by decide,hS0.2,by rw[hS0.1];decide⟩
        have wD:F25 [.v (.ints .u8 now),.v (.str ldrv),.s .u8 (sumS [])]=.one (.v (.ints .u8 (labkey now ldrv (sumS [])))):=by
          rw[←drv_lab (by decide) (by rw[hS0.1];decide)];rfl
        have hK1:=labkey_sec now ldrv (sumS [])
        have vM:preMac2 [.s .u8 (labkey now ldrv (sumS [])),.v (.rsl 1 B.length .u8 B)]:=⟨_,_,rfl,hK1.2,by rw[hK1.1];decide,hBd,by omega⟩
        have wM:FMac2 [.s .u8 (labkey now ldrv (sumS [])),.v (.rsl 1 B.length .u8 B)]=.one (.v (.ints .u8 (nextS now B))):=rfl
        have hNx:Sec (nextS now B):=⟨hmac_len _ _,hmac_dig _ _⟩
        generalize nextS now B=nw at *
        generalize labkey now ldrv (sumS [])=K1 at *
        generalize sumS []=S0 at *
        have kA:=hK1.1
        have l0:=hS0.1
        have lw:=hNx.1
        have z1:spl [0,0,0,0,0,0,0,0,0,0,0,0,0,0,0,0,0,0,0,0,0,0,0,0,0,0,0,0,0,0,0,0] 0 K1=K1:=qdb (by simp[kA])
        have z4:spl [0,0,0,0,0,0,0,0,0,0,0,0,0,0,0,0,0,0,0,0,0,0,0,0,0,0,0,0,0,0,0,0] 0 S0=S0:=qdb (by simp[l0])
        have y1:sub K1 0 32=K1:=sub_zero kA
        have y4:sub S0 0 32=S0:=sub_zero l0
        have e3:∀c:V,spl (c::now.map (V.int .u8)) 1 (nw.map (V.int .u8))=c::nw.map (V.int .u8):=fun c=>by simp[spl,hnl,lw]
        simp only[fsS]at qn fn
        simp only[ldrv]at vD wD
        simp only[d1,wj,heq,n4,w4,g3,ga,x1,x2,x3,c2,pmV_f,pmB_f,qn,fn,u0,g0,vD,wD,vM,wM,kA,l0,lw,z1,z4,y1,y4,e1,e2,e3,↓rN,hnl,sb,injs_ints,blks_ints,cnts_ints,idsEs_N,↓frzs_ints,List.length_map,sub_zero,qdb,qai,List.length_cons,List.length_nil,Nat.reduceAdd,Nat.le_refl,Nat.reduceLeDiff,Nat.reduceLT,true_and,and_true,↓qar,↓qan,↓qao,↓qap,↓qam,↓qaj,↓qak,↓qaq,↓qal,idsEs,idsE,idss,killB,effE,stA,wBlk,deads,nwA,cntA,cnts,cnt,valO,blkO,inj,injs,blk,blks,outA,outR,outE,outEs,sids,List.nodup_cons,List.nodup_nil,List.not_mem_nil,List.mem_cons,or_false,false_or,not_or,↓evA,evB,evs,evp,mkB,repB,blen,↓retQ,res,resAll,resOne,kill,apartOk,exp,injV,injB,pur,purs,purR,pursR,List.reduceReplicate,Nat.reduceMul,Nat.reduceSub,Nat.reduceEqDiff,Int.reduceToNat,Int.reduceLE,Int.reduceLT,Int.reduceEq,reduceCtorEq,↓reduceIte]
        repeat(refine And.intro (by omega) ?_)
        refine⟨(j+1,b,nw,false),hK _ ⟨(show j+1≤n by omega),(show j+1≤9 by omega),hb,(show b.length≤400*(j+1) by omega),hNx,he⟩ (show n-(j+1)<n-j by omega),Hd.of [0,1,2,3,4,5,6,10,8] (by decide) (by decide) (by simp) ?_⟩
        simp only[pmV_f,pmB_f,gcVs_ints,gc,gcVs,gcV,posOf,gcH,gcB,Option.map_some,Option.map_none,List.replicate_zero,List.drop_zero,↓evA,evB,evs,evp,mkB,repB,blen,↓retQ,res,resAll,resOne,kill,apartOk,exp,injV,injB,pur,purs,purR,pursR,List.reduceReplicate,Nat.reduceAdd,Nat.reduceMul,Nat.reduceSub,Nat.reduceEqDiff,Nat.reduceLT,Int.reduceToNat,Int.reduceLE,Int.reduceLT,Int.reduceEq,reduceCtorEq,↓reduceIte]
      by_cases c3:(r:Int)=3
      · have qg:preAg [.p (fsS b now),.v (.rsl 1 B.length .u8 B)]:=⟨_,_,_,rfl,hb,by omega,hn,part_rsl hBd,by rw[flq];omega⟩
        have fg:FAg [.p (fsS b now),.v (.rsl 1 B.length .u8 B)]=([.x::now.map (fun x=>.v (.int .u8 x))],.one (.p (fsS b (hmac zz (pskOf (flat [V.rsl 1 B.length .u8 B])))))):=rfl
        rw[flq]at fg
        have qb:preBeg2 [.v (.rsl 1 B.length .u8 B)]:=⟨B,rfl,hBd,by omega⟩
        have fb:FBeg2 [.v (.rsl 1 B.length .u8 B)]=.one (.v (.ints .u8 (hmac zz (pskOf B)))):=rfl
        have hNw:Sec (hmac zz (pskOf B)):=⟨hmac_len _ _,hmac_dig _ _⟩
        generalize hmac zz (pskOf B)=nw at *
        have lw:=hNw.1
        have e3:∀c:V,spl (c::now.map (V.int .u8)) 1 (nw.map (V.int .u8))=c::nw.map (V.int .u8):=fun c=>by simp[spl,hnl,lw]
        simp only[fsS]at qg fg
        simp only[d1,wj,heq,n4,w4,g3,ga,x1,x2,x3,c2,c3,pmV_f,pmB_f,qg,fg,qb,fb,lw,e1,e2,e3,↓rN,hnl,sb,injs_ints,blks_ints,cnts_ints,idsEs_N,↓frzs_ints,List.length_map,sub_zero,qdb,qai,List.length_cons,List.length_nil,Nat.reduceAdd,Nat.le_refl,Nat.reduceLeDiff,Nat.reduceLT,true_and,and_true,↓qar,↓qan,↓qao,↓qap,↓qam,↓qaj,↓qak,↓qaq,↓qal,idsEs,idsE,idss,killB,effE,stA,wBlk,deads,nwA,cntA,cnts,cnt,valO,blkO,inj,injs,blk,blks,outA,outR,outE,outEs,sids,List.nodup_cons,List.nodup_nil,List.not_mem_nil,List.mem_cons,or_false,false_or,not_or,↓evA,evB,evs,evp,mkB,repB,blen,↓retQ,res,resAll,resOne,kill,apartOk,exp,injV,injB,pur,purs,purR,pursR,List.reduceReplicate,Nat.reduceMul,Nat.reduceSub,Nat.reduceEqDiff,Int.reduceToNat,Int.reduceLE,Int.reduceLT,Int.reduceEq,reduceCtorEq,↓reduceIte]
        repeat(refine And.intro (by omega) ?_)
        repeat' (refine And.intro ?_ ?_)
        all_goals
          refine⟨(j+1,b,nw,false),hK _ ⟨(show j+1≤n by omega),(show j+1≤9 by omega),hb,(show b.length≤400*(j+1) by omega),hNw,he⟩ (show n-(j+1)<n-j by omega),Hd.of [0,1,2,3,4,5,10,11,8] (by decide) (by decide) (by simp) ?_⟩
          simp only[pmV_f,pmB_f,gcVs_ints,gc,gcVs,gcV,posOf,gcH,gcB,Option.map_some,Option.map_none,List.replicate_zero,List.drop_zero,↓evA,evB,evs,evp,mkB,repB,blen,↓retQ,res,resAll,resOne,kill,apartOk,exp,injV,injB,pur,purs,purR,pursR,List.reduceReplicate,Nat.reduceAdd,Nat.reduceMul,Nat.reduceSub,Nat.reduceEqDiff,Nat.reduceLT,Int.reduceToNat,Int.reduceLE,Int.reduceLT,Int.reduceEq,reduceCtorEq,↓reduceIte]
      obtain rfl:=he rfl
      have s00:sub ([]:List Int) 0 0=[]:=rfl
      have qa:preAdL [.p (fsS ([]:List Int) now),.v (.rcs 1 2 [.rsl 1 B.length .u8 B,.rsl 1 C.length .u8 C])]:=⟨([]:List Int),now,[.rsl 1 B.length .u8 B,.rsl 1 C.length .u8 C],rfl,hb,hn,parts_cons (part_rsl hBd) (parts_cons (part_rsl hCd) parts_nil),by simp,by rw[flat2];simp only[List.length_append];omega⟩
      have fa:FAdL [.p (fsS ([]:List Int) now),.v (.rcs 1 2 [.rsl 1 B.length .u8 B,.rsl 1 C.length .u8 C])]=([fsS (([]:List Int)++(B++C)) now],.many []):=by
        show ([fsS (([]:List Int)++flat [V.rsl 1 B.length .u8 B,V.rsl 1 C.length .u8 C]) now],EOut.many [])=_
        rw[flat2]
      simp only[fsS,List.nil_append,List.length_nil]at qa fa
      simp only[d1,wj,heq,n4,w4,g3,ga,x1,x2,x3,c2,c3,pmV_f,pmB_f,qa,fa,e1,e2,↓rN,hnl,sb,injs_ints,blks_ints,cnts_ints,idsEs_N,↓frzs_ints,List.length_map,s00,List.length_nil,sub_zero,qdb,qai,List.length_cons,Nat.reduceAdd,Nat.le_refl,Nat.reduceLeDiff,Nat.reduceLT,true_and,and_true,↓qar,↓qan,↓qao,↓qap,↓qam,↓qaj,↓qak,↓qaq,↓qal,idsEs,idsE,idss,killB,effE,stA,wBlk,deads,nwA,cntA,cnts,cnt,valO,blkO,inj,injs,blk,blks,outA,outR,outE,outEs,sids,List.nodup_cons,List.nodup_nil,List.not_mem_nil,List.mem_cons,or_false,false_or,not_or,↓evA,evB,evs,evp,mkB,repB,blen,↓retQ,res,resAll,resOne,kill,apartOk,exp,injV,injB,pur,purs,purR,pursR,List.reduceReplicate,Nat.reduceMul,Nat.reduceSub,Nat.reduceEqDiff,Int.reduceToNat,Int.reduceLE,Int.reduceLT,Int.reduceEq,reduceCtorEq,↓reduceIte]
      repeat(refine And.intro (by omega) ?_)
      refine awp_loopA (n:=190) hA [2,3,9,10,12,15,42,43,44,77,78] (by decide +kernel) (fun x:Nat×List Int=>[.str l,.slice 5 0 1 m.length m.length,.ptr 6 0,.ptr 8 0,.ptr 9 0,.slice 11 0 1 B.length B.length,.rcs 3 n cs,.int .i64 (n:Int),.int .i64 (j:Int),.int .i64 (B.length:Int),.int .i64 (x.1:Int)])
        (fun x=>[.ints true .u64 roots,.ints true .u64 roots,.ints true .u64 seconds,.dead,.ints true .u8 p,.ints true .u8 m,.cells false (.slice 13 0 1 (B.length+C.length) (B.length+C.length)::now.map (V.int .u8)),.dead,.cells false (.nils::now.map (V.int .u8)),.cells false [.int .u8 (q:Int),.rsl 1 B.length .u8 B,.rsl 1 C.length .u8 C],.dead,.ints false .u8 x.2,.cells false [.slice 11 0 1 B.length B.length,.rsl 1 C.length .u8 C],.ints false .u8 (B++C)])
        (fun x=>x.1≤B.length∧x.2.length=B.length) (fun x=>B.length-x.1) (0,B) ?_ ⟨by omega,rfl⟩ ?_
      · refine Hd.same ?_
        simp only[show ((0:Nat):Int)=0 from rfl,↓evA,evB,evs,evp,mkB,repB,blen,↓retQ,res,resAll,resOne,kill,apartOk,exp,injV,injB,pur,purs,purR,pursR,List.reduceReplicate,Nat.reduceAdd,Nat.reduceMul,Nat.reduceSub,Nat.reduceEqDiff,Nat.reduceLT,Int.reduceToNat,Int.reduceLE,Int.reduceLT,Int.reduceEq,reduceCtorEq,↓reduceIte]
      rintro ⟨i,xs⟩ ⟨hi,hxl⟩ K1 hK1
      simp only at hi hxl hK1
      simp only[s18,s25,s20,s24,sAdd,sNx,sTr01,sAg,sNew2,sSm01,sBnd,sBeg2,sMac2,shS1]
      by_cases hli:i<B.length
      · have d2:(i:Int)<(B.length:Int):=by omega
        have wi:Go.IntKind.i64.wrap ((i:Int)+1)=((i+1:Nat):Int):=by rw[wrap_i64];omega
        simp only[d2,wi,hxl,hli,sub_zero,qdb,qai,List.length_cons,List.length_nil,Nat.reduceAdd,Nat.le_refl,Nat.reduceLeDiff,Nat.reduceLT,true_and,and_true,↓evA,evB,evs,evp,mkB,repB,blen,↓retQ,res,resAll,resOne,kill,apartOk,exp,injV,injB,pur,purs,purR,pursR,List.reduceReplicate,Nat.reduceMul,Nat.reduceSub,Nat.reduceEqDiff,Int.reduceToNat,Int.reduceLE,Int.reduceLT,Int.reduceEq,reduceCtorEq,↓reduceIte]
        repeat(refine And.intro (by omega) ?_)
        refine⟨(i+1,xs.set i (bXor .u8 (getI xs i) 255)),hK1 _ ⟨(show i+1≤B.length by omega),(show (xs.set i (bXor .u8 (getI xs i) 255)).length=B.length by rw[List.length_set,hxl])⟩ (show B.length-(i+1)<B.length-i by omega),Hd.same ?_⟩
        simp only[↓evA,evB,evs,evp,mkB,repB,blen,↓retQ,res,resAll,resOne,kill,apartOk,exp,injV,injB,pur,purs,purR,pursR,List.reduceReplicate,Nat.reduceAdd,Nat.reduceMul,Nat.reduceSub,Nat.reduceEqDiff,Nat.reduceLT,Int.reduceToNat,Int.reduceLE,Int.reduceLT,Int.reduceEq,reduceCtorEq,↓reduceIte]
      obtain rfl:i=B.length:=by omega
      have d2:¬(B.length:Int)<(B.length:Int):=by omega
      have hNd:Dig 256 (B++C):=hBd.append hCd
      simp only[d2,wj,s00,sub_zero,qdb,qai,List.length_cons,List.length_nil,Nat.reduceAdd,Nat.le_refl,Nat.reduceLeDiff,Nat.reduceLT,true_and,and_true,↓evA,evB,evs,evp,mkB,repB,blen,↓retQ,res,resAll,resOne,kill,apartOk,exp,injV,injB,pur,purs,purR,pursR,List.reduceReplicate,Nat.reduceMul,Nat.reduceSub,Nat.reduceEqDiff,Int.reduceToNat,Int.reduceLE,Int.reduceLT,Int.reduceEq,reduceCtorEq,↓reduceIte]
      repeat(refine And.intro (by omega) ?_)
      refine⟨(j+1,(B++C),now,true),hK _ ⟨(show j+1≤n by omega),(show j+1≤9 by omega),hNd,(show (B++C).length≤400*(j+1) by simp only[List.length_append];omega),hn,fun h=>by cases h⟩ (show n-(j+1)<n-j by omega),Hd.of [0,1,2,3,4,5,6,13,8,17] (by decide) (by decide) (by simp) ?_⟩
      simp only[pmV_t,pmB_t,gcVs_ints,Nat.add_assoc,gc,gcVs,gcV,posOf,gcH,gcB,Option.map_some,Option.map_none,List.replicate_zero,List.drop_zero,↓evA,evB,evs,evp,mkB,repB,blen,↓retQ,res,resAll,resOne,kill,apartOk,exp,injV,injB,pur,purs,purR,pursR,List.reduceReplicate,Nat.reduceAdd,Nat.reduceMul,Nat.reduceSub,Nat.reduceEqDiff,Nat.reduceLT,Int.reduceToNat,Int.reduceLE,Int.reduceLT,Int.reduceEq,reduceCtorEq,↓reduceIte]
    | true =>
      by_cases hx1:8<j
      · have x1:(8:Int)<(j:Int):=by omega
        have hob:=obj_rsl hb (by omega) hn
        have uS:pre24 [.s .u8 b]:=⟨b,rfl,hb,by omega⟩
        have gS:F24 [.s .u8 b]=.one (.v (.ints .u8 (sumS b))):=rfl
        have u0:pre24 [.s .u8 []]:=⟨[],rfl,dn,by simp⟩
        have g0:F24 [.s .u8 []]=.one (.v (.ints .u8 (sumS []))):=rfl
        have uM:pre24 [.s .u8 m]:=⟨m,rfl,hm,by omega⟩
        have gM:F24 [.s .u8 m]=.one (.v (.ints .u8 (sumS m))):=rfl
        have uB:pre24 [.s .u8 (b++m)]:=⟨b++m,rfl,hb.append hm,by rw[List.length_append];omega⟩
        have gB:F24 [.s .u8 (b++m)]=.one (.v (.ints .u8 (sumS (b++m)))):=rfl
        have ut:=trq (l:=l) hb (by omega) hn hl (by omega)
        have gt:=trf (l:=l) hb (by omega) hn
        have us0:preSm01 [.v (.rpc (csS (.rsl 1 b.length .u8 b) now) 0),.v .nils]:=.inl ⟨_,b,now,rfl,hob⟩
        have gs0:FSm01 [.v (.rpc (csS (.rsl 1 b.length .u8 b) now) 0),.v .nils]=.one (.v (.ints .u8 (sumS (getO (.rpc (csS (.rsl 1 b.length .u8 b) now) 0)).1))):=rfl
        have us1:preSm01 [.v (.rpc (csS (.rsl 1 b.length .u8 b) now) 0),.v (.rcs 1 1 [.rsl 1 m.length .u8 m])]:=.inr ⟨_,_,b,now,rfl,hob,part_rsl hm,by rw[flq];omega⟩
        have gs1:FSm01 [.v (.rpc (csS (.rsl 1 b.length .u8 b) now) 0),.v (.rcs 1 1 [.rsl 1 m.length .u8 m])]=.one (.v (.ints .u8 (sumS ((getO (.rpc (csS (.rsl 1 b.length .u8 b) now) 0)).1++flat [V.rsl 1 m.length .u8 m])))):=rfl
        have ub:preBnd [.v (.rpc (csS (.rsl 1 b.length .u8 b) now) 0),.v (.rsl 1 m.length .u8 m)]:=⟨_,_,b,now,rfl,hob,part_rsl hm,by rw[flq];omega⟩
        have gb:FBnd [.v (.rpc (csS (.rsl 1 b.length .u8 b) now) 0),.v (.rsl 1 m.length .u8 m)]=.one (.v (.ints .u8 (finS (labkey (getO (.rpc (csS (.rsl 1 b.length .u8 b) now) 0)).2 lbnd (sumS [])) (sumS (flat [V.rsl 1 m.length .u8 m]))))):=rfl
        rw[getO_obj hob]at gs0 gs1 gb
        rw[flq]at gs1 gb
        have hS:=sumS_sec b
        have hS0:=sumS_sec []
        have hSm:=sumS_sec m
        have dC:Dig 256 (trfC l):=fun x hx=>by
          simp only[trfC,List.mem_cons,List.mem_append,List.not_mem_nil,or_false]at hx
          rcases hx with rfl | rfl | hx | rfl | rfl | rfl | rfl | rfl | rfl | rfl | rfl
          all_goals first | exact hl x hx | decide
        have dS:Dig 256 (trfS l):=fun x hx=>by
          simp only[trfS,List.mem_cons,List.mem_append,List.not_mem_nil,or_false]at hx
          rcases hx with rfl | rfl | hx | rfl | rfl | rfl | rfl | rfl | rfl | rfl | rfl
          all_goals first | exact hl x hx | decide
        have lC:(trfC l).length≤200:=by simp[trfC];omega
        have lS:(trfS l).length≤200:=by simp[trfS];omega
        have vC:preDrv [.v (.ints .u8 now),.v (.str (trfC l)),.s .u8 (sumS b)]:=⟨_,_,_,rfl,hn,dC,by omega,hS.2,by rw[hS.1];decide⟩
        have wC:F25 [.v (.ints .u8 now),.v (.str (trfC l)),.s .u8 (sumS b)]=.one (.v (.ints .u8 (labkey now (trfC l) (sumS b)))):=by
          rw[←drv_lab lC (by rw[hS.1];decide)];rfl
        have vS:preDrv [.v (.ints .u8 now),.v (.str (trfS l)),.s .u8 (sumS b)]:=⟨_,_,_,rfl,hn,dS,by omega,hS.2,by rw[hS.1];decide⟩
        have wS:F25 [.v (.ints .u8 now),.v (.str (trfS l)),.s .u8 (sumS b)]=.one (.v (.ints .u8 (labkey now (trfS l) (sumS b)))):=by
          rw[←drv_lab lS (by rw[hS.1];decide)];rfl
        have vB:preDrv [.v (.ints .u8 now),.v (.str lbnd),.s .u8 (sumS [])]:=⟨_,_,_,rfl,hn,lit_dig rfl,by decide,hS0.2,by rw[hS0.1];decide⟩
        have wB:F25 [.v (.ints .u8 now),.v (.str lbnd),.s .u8 (sumS [])]=.one (.v (.ints .u8 (labkey now lbnd (sumS [])))):=by
          rw[←drv_lab (by decide) (by rw[hS0.1];decide)];rfl
        have vF:preSS [.v (.ints .u8 (labkey now lbnd (sumS []))),.v (.ints .u8 (sumS m))]:=⟨_,_,rfl,labkey_sec _ _ _,hSm⟩
        have wF:F20 [.v (.ints .u8 (labkey now lbnd (sumS []))),.v (.ints .u8 (sumS m))]=.one (.v (.ints .u8 (finS (labkey now lbnd (sumS [])) (sumS m)))):=rfl
        have kA:=(labkey_sec now (trfC l) (sumS b)).1
        have kB:=(labkey_sec now (trfS l) (sumS b)).1
        have kC:=(labkey_sec now lbnd (sumS [])).1
        have kF:(finS (labkey now lbnd (sumS [])) (sumS m)).length=32:=hmac_len _ _
        generalize finS (labkey now lbnd (sumS [])) (sumS m)=X4 at *
        generalize labkey now (trfC l) (sumS b)=X1 at *
        generalize labkey now (trfS l) (sumS b)=X2 at *
        generalize labkey now lbnd (sumS [])=X3 at *
        have l1:=hS.1
        have l0:=hS0.1
        have lm:=hSm.1
        have lU:=(sumS_sec (b++m)).1
        generalize sumS (b++m)=U at *
        generalize sumS b=Sb at *
        generalize sumS []=S0 at *
        generalize sumS m=Sm at *
        have z:∀{Z:List Int},Z.length=32→spl [0,0,0,0,0,0,0,0,0,0,0,0,0,0,0,0,0,0,0,0,0,0,0,0,0,0,0,0,0,0,0,0] 0 Z=Z:=fun h=>qdb (by simp[h])
        have s32:∀{Z:List Int},Z.length=32→sub Z 0 32=Z:=fun h=>sub_zero h
        have z1:=z kA
        have z2:=z kB
        have z3:=z l1
        have z4:=z l0
        have z5:=z lm
        have y1:=s32 kA
        have y2:=s32 kB
        have y3:=s32 l1
        have y4:=s32 l0
        have y5:=s32 lm
        have y6:=s32 lU
        simp only[csS]at ut gt us0 gs0 us1 gs1 ub gb
        simp only[trfC]at vC wC
        simp only[trfS]at vS wS
        simp only[lbnd]at vB wB
        simp only[d1,wj,heq,n4,w4,g3,ga,x1,pmV_t,pmB_t,uS,gS,u0,g0,uM,gM,uB,gB,ut,gt,us0,gs0,us1,gs1,ub,gb,vC,wC,vS,wS,vB,wB,vF,wF,kA,kB,kC,kF,l1,l0,lm,lU,z1,z2,z3,z4,z5,y1,y2,y3,y4,y5,y6,↓rN,hnl,e1,e2,sb,smm,eq_self,injs_ints,blks_ints,cnts_ints,idsEs_N,↓frzs_ints,List.length_map,sub_zero,qdb,qai,List.length_cons,List.length_nil,Nat.reduceAdd,Nat.le_refl,Nat.reduceLeDiff,Nat.reduceLT,true_and,and_true,↓qar,↓qan,↓qao,↓qap,↓qam,↓qaj,↓qak,↓qaq,↓qal,idsEs,idsE,idss,killB,effE,stA,wBlk,deads,nwA,cntA,cnts,cnt,valO,blkO,inj,injs,blk,blks,outA,outR,outE,outEs,sids,List.nodup_cons,List.nodup_nil,List.not_mem_nil,List.mem_cons,or_false,false_or,not_or,↓evA,evB,evs,evp,mkB,repB,blen,↓retQ,res,resAll,resOne,kill,apartOk,exp,injV,injB,pur,purs,purR,pursR,List.reduceReplicate,Nat.reduceMul,Nat.reduceSub,Nat.reduceEqDiff,Int.reduceToNat,Int.reduceLE,Int.reduceLT,Int.reduceEq,reduceCtorEq,↓reduceIte]
        repeat(first | exact out_bool rfl | refine And.intro (by omega) ?_)
      have x1:¬(8:Int)<(j:Int):=by omega
      by_cases hx2:200<B.length
      · have x2:(200:Int)<(B.length:Int):=by omega
        have hob:=obj_rsl hb (by omega) hn
        have uS:pre24 [.s .u8 b]:=⟨b,rfl,hb,by omega⟩
        have gS:F24 [.s .u8 b]=.one (.v (.ints .u8 (sumS b))):=rfl
        have u0:pre24 [.s .u8 []]:=⟨[],rfl,dn,by simp⟩
        have g0:F24 [.s .u8 []]=.one (.v (.ints .u8 (sumS []))):=rfl
        have uM:pre24 [.s .u8 m]:=⟨m,rfl,hm,by omega⟩
        have gM:F24 [.s .u8 m]=.one (.v (.ints .u8 (sumS m))):=rfl
        have uB:pre24 [.s .u8 (b++m)]:=⟨b++m,rfl,hb.append hm,by rw[List.length_append];omega⟩
        have gB:F24 [.s .u8 (b++m)]=.one (.v (.ints .u8 (sumS (b++m)))):=rfl
        have ut:=trq (l:=l) hb (by omega) hn hl (by omega)
        have gt:=trf (l:=l) hb (by omega) hn
        have us0:preSm01 [.v (.rpc (csS (.rsl 1 b.length .u8 b) now) 0),.v .nils]:=.inl ⟨_,b,now,rfl,hob⟩
        have gs0:FSm01 [.v (.rpc (csS (.rsl 1 b.length .u8 b) now) 0),.v .nils]=.one (.v (.ints .u8 (sumS (getO (.rpc (csS (.rsl 1 b.length .u8 b) now) 0)).1))):=rfl
        have us1:preSm01 [.v (.rpc (csS (.rsl 1 b.length .u8 b) now) 0),.v (.rcs 1 1 [.rsl 1 m.length .u8 m])]:=.inr ⟨_,_,b,now,rfl,hob,part_rsl hm,by rw[flq];omega⟩
        have gs1:FSm01 [.v (.rpc (csS (.rsl 1 b.length .u8 b) now) 0),.v (.rcs 1 1 [.rsl 1 m.length .u8 m])]=.one (.v (.ints .u8 (sumS ((getO (.rpc (csS (.rsl 1 b.length .u8 b) now) 0)).1++flat [V.rsl 1 m.length .u8 m])))):=rfl
        have ub:preBnd [.v (.rpc (csS (.rsl 1 b.length .u8 b) now) 0),.v (.rsl 1 m.length .u8 m)]:=⟨_,_,b,now,rfl,hob,part_rsl hm,by rw[flq];omega⟩
        have gb:FBnd [.v (.rpc (csS (.rsl 1 b.length .u8 b) now) 0),.v (.rsl 1 m.length .u8 m)]=.one (.v (.ints .u8 (finS (labkey (getO (.rpc (csS (.rsl 1 b.length .u8 b) now) 0)).2 lbnd (sumS [])) (sumS (flat [V.rsl 1 m.length .u8 m]))))):=rfl
        rw[getO_obj hob]at gs0 gs1 gb
        rw[flq]at gs1 gb
        have hS:=sumS_sec b
        have hS0:=sumS_sec []
        have hSm:=sumS_sec m
        have dC:Dig 256 (trfC l):=fun x hx=>by
          simp only[trfC,List.mem_cons,List.mem_append,List.not_mem_nil,or_false]at hx
          rcases hx with rfl | rfl | hx | rfl | rfl | rfl | rfl | rfl | rfl | rfl | rfl
          all_goals first | exact hl x hx | decide
        have dS:Dig 256 (trfS l):=fun x hx=>by
          simp only[trfS,List.mem_cons,List.mem_append,List.not_mem_nil,or_false]at hx
          rcases hx with rfl | rfl | hx | rfl | rfl | rfl | rfl | rfl | rfl | rfl | rfl
          all_goals first | exact hl x hx | decide
        have lC:(trfC l).length≤200:=by simp[trfC];omega
        have lS:(trfS l).length≤200:=by simp[trfS];omega
        have vC:preDrv [.v (.ints .u8 now),.v (.str (trfC l)),.s .u8 (sumS b)]:=⟨_,_,_,rfl,hn,dC,by omega,hS.2,by rw[hS.1];decide⟩
        have wC:F25 [.v (.ints .u8 now),.v (.str (trfC l)),.s .u8 (sumS b)]=.one (.v (.ints .u8 (labkey now (trfC l) (sumS b)))):=by
          rw[←drv_lab lC (by rw[hS.1];decide)];rfl
        have vS:preDrv [.v (.ints .u8 now),.v (.str (trfS l)),.s .u8 (sumS b)]:=⟨_,_,_,rfl,hn,dS,by omega,hS.2,by rw[hS.1];decide⟩
        have wS:F25 [.v (.ints .u8 now),.v (.str (trfS l)),.s .u8 (sumS b)]=.one (.v (.ints .u8 (labkey now (trfS l) (sumS b)))):=by
          rw[←drv_lab lS (by rw[hS.1];decide)];rfl
        have vB:preDrv [.v (.ints .u8 now),.v (.str lbnd),.s .u8 (sumS [])]:=⟨_,_,_,rfl,hn,lit_dig rfl,by decide,hS0.2,by rw[hS0.1];decide⟩
        have wB:F25 [.v (.ints .u8 now),.v (.str lbnd),.s .u8 (sumS [])]=.one (.v (.ints .u8 (labkey now lbnd (sumS [])))):=by
          rw[←drv_lab (by decide) (by rw[hS0.1];decide)];rfl
        have vF:preSS [.v (.ints .u8 (labkey now lbnd (sumS []))),.v (.ints .u8 (sumS m))]:=⟨_,_,rfl,labkey_sec _ _ _,hSm⟩
        have wF:F20 [.v (.ints .u8 (labkey now lbnd (sumS []))),.v (.ints .u8 (sumS m))]=.one (.v (.ints .u8 (finS (labkey now lbnd (sumS [])) (sumS m)))):=rfl
        have kA:=(labkey_sec now (trfC l) (sumS b)).1
        have kB:=(labkey_sec now (trfS l) (sumS b)).1
        have kC:=(labkey_sec now lbnd (sumS [])).1
        have kF:(finS (labkey now lbnd (sumS [])) (sumS m)).length=32:=hmac_len _ _
        generalize finS (labkey now lbnd (sumS [])) (sumS m)=X4 at *
        generalize labkey now (trfC l) (sumS b)=X1 at *
        generalize labkey now (trfS l) (sumS b)=X2 at *
        generalize labkey now lbnd (sumS [])=X3 at *
        have l1:=hS.1
        have l0:=hS0.1
        have lm:=hSm.1
        have lU:=(sumS_sec (b++m)).1
        generalize sumS (b++m)=U at *
        generalize sumS b=Sb at *
        generalize sumS []=S0 at *
        generalize sumS m=Sm at *
        have z:∀{Z:List Int},Z.length=32→spl [0,0,0,0,0,0,0,0,0,0,0,0,0,0,0,0,0,0,0,0,0,0,0,0,0,0,0,0,0,0,0,0] 0 Z=Z:=fun h=>qdb (by simp[h])
        have s32:∀{Z:List Int},Z.length=32→sub Z 0 32=Z:=fun h=>sub_zero h
        have z1:=z kA
        have z2:=z kB
        have z3:=z l1
        have z4:=z l0
        have z5:=z lm
        have y1:=s32 kA
        have y2:=s32 kB
        have y3:=s32 l1
        have y4:=s32 l0
        have y5:=s32 lm
        have y6:=s32 lU
        simp only[csS]at ut gt us0 gs0 us1 gs1 ub gb
        simp only[trfC]at vC wC
        simp only[trfS]at vS wS
        simp only[lbnd]at vB wB
        simp only[d1,wj,heq,n4,w4,g3,ga,x1,x2,pmV_t,pmB_t,uS,gS,u0,g0,uM,gM,uB,gB,ut,gt,us0,gs0,us1,gs1,ub,gb,vC,wC,vS,wS,vB,wB,vF,wF,kA,kB,kC,kF,l1,l0,lm,lU,z1,z2,z3,z4,z5,y1,y2,y3,y4,y5,y6,↓rN,hnl,e1,e2,sb,smm,eq_self,injs_ints,blks_ints,cnts_ints,idsEs_N,↓frzs_ints,List.length_map,sub_zero,qdb,qai,List.length_cons,List.length_nil,Nat.reduceAdd,Nat.le_refl,Nat.reduceLeDiff,Nat.reduceLT,true_and,and_true,↓qar,↓qan,↓qao,↓qap,↓qam,↓qaj,↓qak,↓qaq,↓qal,idsEs,idsE,idss,killB,effE,stA,wBlk,deads,nwA,cntA,cnts,cnt,valO,blkO,inj,injs,blk,blks,outA,outR,outE,outEs,sids,List.nodup_cons,List.nodup_nil,List.not_mem_nil,List.mem_cons,or_false,false_or,not_or,↓evA,evB,evs,evp,mkB,repB,blen,↓retQ,res,resAll,resOne,kill,apartOk,exp,injV,injB,pur,purs,purR,pursR,List.reduceReplicate,Nat.reduceMul,Nat.reduceSub,Nat.reduceEqDiff,Int.reduceToNat,Int.reduceLE,Int.reduceLT,Int.reduceEq,reduceCtorEq,↓reduceIte]
        repeat(first | exact out_bool rfl | refine And.intro (by omega) ?_)
      have x2:¬(200:Int)<(B.length:Int):=by omega
      by_cases hx3:200<C.length
      · have x3:(200:Int)<(C.length:Int):=by omega
        have hob:=obj_rsl hb (by omega) hn
        have uS:pre24 [.s .u8 b]:=⟨b,rfl,hb,by omega⟩
        have gS:F24 [.s .u8 b]=.one (.v (.ints .u8 (sumS b))):=rfl
        have u0:pre24 [.s .u8 []]:=⟨[],rfl,dn,by simp⟩
        have g0:F24 [.s .u8 []]=.one (.v (.ints .u8 (sumS []))):=rfl
        have uM:pre24 [.s .u8 m]:=⟨m,rfl,hm,by omega⟩
        have gM:F24 [.s .u8 m]=.one (.v (.ints .u8 (sumS m))):=rfl
        have uB:pre24 [.s .u8 (b++m)]:=⟨b++m,rfl,hb.append hm,by rw[List.length_append];omega⟩
        have gB:F24 [.s .u8 (b++m)]=.one (.v (.ints .u8 (sumS (b++m)))):=rfl
        have ut:=trq (l:=l) hb (by omega) hn hl (by omega)
        have gt:=trf (l:=l) hb (by omega) hn
        have us0:preSm01 [.v (.rpc (csS (.rsl 1 b.length .u8 b) now) 0),.v .nils]:=.inl ⟨_,b,now,rfl,hob⟩
        have gs0:FSm01 [.v (.rpc (csS (.rsl 1 b.length .u8 b) now) 0),.v .nils]=.one (.v (.ints .u8 (sumS (getO (.rpc (csS (.rsl 1 b.length .u8 b) now) 0)).1))):=rfl
        have us1:preSm01 [.v (.rpc (csS (.rsl 1 b.length .u8 b) now) 0),.v (.rcs 1 1 [.rsl 1 m.length .u8 m])]:=.inr ⟨_,_,b,now,rfl,hob,part_rsl hm,by rw[flq];omega⟩
        have gs1:FSm01 [.v (.rpc (csS (.rsl 1 b.length .u8 b) now) 0),.v (.rcs 1 1 [.rsl 1 m.length .u8 m])]=.one (.v (.ints .u8 (sumS ((getO (.rpc (csS (.rsl 1 b.length .u8 b) now) 0)).1++flat [V.rsl 1 m.length .u8 m])))):=rfl
        have ub:preBnd [.v (.rpc (csS (.rsl 1 b.length .u8 b) now) 0),.v (.rsl 1 m.length .u8 m)]:=⟨_,_,b,now,rfl,hob,part_rsl hm,by rw[flq];omega⟩
        have gb:FBnd [.v (.rpc (csS (.rsl 1 b.length .u8 b) now) 0),.v (.rsl 1 m.length .u8 m)]=.one (.v (.ints .u8 (finS (labkey (getO (.rpc (csS (.rsl 1 b.length .u8 b) now) 0)).2 lbnd (sumS [])) (sumS (flat [V.rsl 1 m.length .u8 m]))))):=rfl
        rw[getO_obj hob]at gs0 gs1 gb
        rw[flq]at gs1 gb
        have hS:=sumS_sec b
        have hS0:=sumS_sec []
        have hSm:=sumS_sec m
        have dC:Dig 256 (trfC l):=fun x hx=>by
          simp only[trfC,List.mem_cons,List.mem_append,List.not_mem_nil,or_false]at hx
          rcases hx with rfl | rfl | hx | rfl | rfl | rfl | rfl | rfl | rfl | rfl | rfl
          all_goals first | exact hl x hx | decide
        have dS:Dig 256 (trfS l):=fun x hx=>by
          simp only[trfS,List.mem_cons,List.mem_append,List.not_mem_nil,or_false]at hx
          rcases hx with rfl | rfl | hx | rfl | rfl | rfl | rfl | rfl | rfl | rfl | rfl
          all_goals first | exact hl x hx | decide
        have lC:(trfC l).length≤200:=by simp[trfC];omega
        have lS:(trfS l).length≤200:=by simp[trfS];omega
        have vC:preDrv [.v (.ints .u8 now),.v (.str (trfC l)),.s .u8 (sumS b)]:=⟨_,_,_,rfl,hn,dC,by omega,hS.2,by rw[hS.1];decide⟩
        have wC:F25 [.v (.ints .u8 now),.v (.str (trfC l)),.s .u8 (sumS b)]=.one (.v (.ints .u8 (labkey now (trfC l) (sumS b)))):=by
          rw[←drv_lab lC (by rw[hS.1];decide)];rfl
        have vS:preDrv [.v (.ints .u8 now),.v (.str (trfS l)),.s .u8 (sumS b)]:=⟨_,_,_,rfl,hn,dS,by omega,hS.2,by rw[hS.1];decide⟩
        have wS:F25 [.v (.ints .u8 now),.v (.str (trfS l)),.s .u8 (sumS b)]=.one (.v (.ints .u8 (labkey now (trfS l) (sumS b)))):=by
          rw[←drv_lab lS (by rw[hS.1];decide)];rfl
        have vB:preDrv [.v (.ints .u8 now),.v (.str lbnd),.s .u8 (sumS [])]:=⟨_,_,_,rfl,hn,lit_dig rfl,by decide,hS0.2,by rw[hS0.1];decide⟩
        have wB:F25 [.v (.ints .u8 now),.v (.str lbnd),.s .u8 (sumS [])]=.one (.v (.ints .u8 (labkey now lbnd (sumS [])))):=by
          rw[←drv_lab (by decide) (by rw[hS0.1];decide)];rfl
        have vF:preSS [.v (.ints .u8 (labkey now lbnd (sumS []))),.v (.ints .u8 (sumS m))]:=⟨_,_,rfl,labkey_sec _ _ _,hSm⟩
        have wF:F20 [.v (.ints .u8 (labkey now lbnd (sumS []))),.v (.ints .u8 (sumS m))]=.one (.v (.ints .u8 (finS (labkey now lbnd (sumS [])) (sumS m)))):=rfl
        have kA:=(labkey_sec now (trfC l) (sumS b)).1
        have kB:=(labkey_sec now (trfS l) (sumS b)).1
        have kC:=(labkey_sec now lbnd (sumS [])).1
        have kF:(finS (labkey now lbnd (sumS [])) (sumS m)).length=32:=hmac_len _ _
        generalize finS (labkey now lbnd (sumS [])) (sumS m)=X4 at *
        generalize labkey now (trfC l) (sumS b)=X1 at *
        generalize labkey now (trfS l) (sumS b)=X2 at *
        generalize labkey now lbnd (sumS [])=X3 at *
        have l1:=hS.1
        have l0:=hS0.1
        have lm:=hSm.1
        have lU:=(sumS_sec (b++m)).1
        generalize sumS (b++m)=U at *
        generalize sumS b=Sb at *
        generalize sumS []=S0 at *
        generalize sumS m=Sm at *
        have z:∀{Z:List Int},Z.length=32→spl [0,0,0,0,0,0,0,0,0,0,0,0,0,0,0,0,0,0,0,0,0,0,0,0,0,0,0,0,0,0,0,0] 0 Z=Z:=fun h=>qdb (by simp[h])
        have s32:∀{Z:List Int},Z.length=32→sub Z 0 32=Z:=fun h=>sub_zero h
        have z1:=z kA
        have z2:=z kB
        have z3:=z l1
        have z4:=z l0
        have z5:=z lm
        have y1:=s32 kA
        have y2:=s32 kB
        have y3:=s32 l1
        have y4:=s32 l0
        have y5:=s32 lm
        have y6:=s32 lU
        simp only[csS]at ut gt us0 gs0 us1 gs1 ub gb
        simp only[trfC]at vC wC
        simp only[trfS]at vS wS
        simp only[lbnd]at vB wB
        simp only[d1,wj,heq,n4,w4,g3,ga,x1,x2,x3,pmV_t,pmB_t,uS,gS,u0,g0,uM,gM,uB,gB,ut,gt,us0,gs0,us1,gs1,ub,gb,vC,wC,vS,wS,vB,wB,vF,wF,kA,kB,kC,kF,l1,l0,lm,lU,z1,z2,z3,z4,z5,y1,y2,y3,y4,y5,y6,↓rN,hnl,e1,e2,sb,smm,eq_self,injs_ints,blks_ints,cnts_ints,idsEs_N,↓frzs_ints,List.length_map,sub_zero,qdb,qai,List.length_cons,List.length_nil,Nat.reduceAdd,Nat.le_refl,Nat.reduceLeDiff,Nat.reduceLT,true_and,and_true,↓qar,↓qan,↓qao,↓qap,↓qam,↓qaj,↓qak,↓qaq,↓qal,idsEs,idsE,idss,killB,effE,stA,wBlk,deads,nwA,cntA,cnts,cnt,valO,blkO,inj,injs,blk,blks,outA,outR,outE,outEs,sids,List.nodup_cons,List.nodup_nil,List.not_mem_nil,List.mem_cons,or_false,false_or,not_or,↓evA,evB,evs,evp,mkB,repB,blen,↓retQ,res,resAll,resOne,kill,apartOk,exp,injV,injB,pur,purs,purR,pursR,List.reduceReplicate,Nat.reduceMul,Nat.reduceSub,Nat.reduceEqDiff,Int.reduceToNat,Int.reduceLE,Int.reduceLT,Int.reduceEq,reduceCtorEq,↓reduceIte]
        repeat(first | exact out_bool rfl | refine And.intro (by omega) ?_)
      have x3:¬(200:Int)<(C.length:Int):=by omega
      by_cases c2:(r:Int)=2
      · have qn:preNx [.p (fsS b now),.v (.rsl 1 B.length .u8 B)]:=⟨_,_,_,rfl,hb,by omega,hn,part_rsl hBd,by rw[flq];omega⟩
        have fn:FNx [.p (fsS b now),.v (.rsl 1 B.length .u8 B)]=([fsS b (nextS now B)],.many []):=by
          show ([fsS b (nextS (nowE (now.map fun x=>.v (.int .u8 x))) (flat [V.rsl 1 B.length .u8 B]))],EOut.many [])=_
          rw[nowE_ints,flq]
        have u0:pre24 [.s .u8 []]:=⟨[],rfl,dn,by simp⟩
        have g0:F24 [.s .u8 []]=.one (.v (.ints .u8 (sumS []))):=rfl
        have hS0:=sumS_sec []
        have vD:preDrv [.v (.ints .u8 now),.v (.str ldrv),.s .u8 (sumS [])]:=⟨_,_,_,rfl,hn,lit_dig rfl,by decide,hS0.2,by rw[hS0.1];decide⟩
        have wD:F25 [.v (.ints .u8 now),.v (.str ldrv),.s .u8 (sumS [])]=.one (.v (.ints .u8 (labkey now ldrv (sumS [])))):=by
          rw[←drv_lab (by decide) (by rw[hS0.1];decide)];rfl
        have hK1:=labkey_sec now ldrv (sumS [])
        have vM:preMac2 [.s .u8 (labkey now ldrv (sumS [])),.v (.rsl 1 B.length .u8 B)]:=⟨_,_,rfl,hK1.2,by rw[hK1.1];decide,hBd,by omega⟩
        have wM:FMac2 [.s .u8 (labkey now ldrv (sumS [])),.v (.rsl 1 B.length .u8 B)]=.one (.v (.ints .u8 (nextS now B))):=rfl
        have hNx:Sec (nextS now B):=⟨hmac_len _ _,hmac_dig _ _⟩
        generalize nextS now B=nw at *
        generalize labkey now ldrv (sumS [])=K1 at *
        generalize sumS []=S0 at *
        have kA:=hK1.1
        have l0:=hS0.1
        have lw:=hNx.1
        have z1:spl [0,0,0,0,0,0,0,0,0,0,0,0,0,0,0,0,0,0,0,0,0,0,0,0,0,0,0,0,0,0,0,0] 0 K1=K1:=qdb (by simp[kA])
        have z4:spl [0,0,0,0,0,0,0,0,0,0,0,0,0,0,0,0,0,0,0,0,0,0,0,0,0,0,0,0,0,0,0,0] 0 S0=S0:=qdb (by simp[l0])
        have y1:sub K1 0 32=K1:=sub_zero kA
        have y4:sub S0 0 32=S0:=sub_zero l0
        have e3:∀c:V,spl (c::now.map (V.int .u8)) 1 (nw.map (V.int .u8))=c::nw.map (V.int .u8):=fun c=>by simp[spl,hnl,lw]
        simp only[fsS]at qn fn
        simp only[ldrv]at vD wD
        simp only[d1,wj,heq,n4,w4,g3,ga,x1,x2,x3,c2,pmV_t,pmB_t,qn,fn,u0,g0,vD,wD,vM,wM,kA,l0,lw,z1,z4,y1,y4,e1,e2,e3,↓rN,hnl,sb,injs_ints,blks_ints,cnts_ints,idsEs_N,↓frzs_ints,List.length_map,sub_zero,qdb,qai,List.length_cons,List.length_nil,Nat.reduceAdd,Nat.le_refl,Nat.reduceLeDiff,Nat.reduceLT,true_and,and_true,↓qar,↓qan,↓qao,↓qap,↓qam,↓qaj,↓qak,↓qaq,↓qal,idsEs,idsE,idss,killB,effE,stA,wBlk,deads,nwA,cntA,cnts,cnt,valO,blkO,inj,injs,blk,blks,outA,outR,outE,outEs,sids,List.nodup_cons,List.nodup_nil,List.not_mem_nil,List.mem_cons,or_false,false_or,not_or,↓evA,evB,evs,evp,mkB,repB,blen,↓retQ,res,resAll,resOne,kill,apartOk,exp,injV,injB,pur,purs,purR,pursR,List.reduceReplicate,Nat.reduceMul,Nat.reduceSub,Nat.reduceEqDiff,Int.reduceToNat,Int.reduceLE,Int.reduceLT,Int.reduceEq,reduceCtorEq,↓reduceIte]
        repeat(refine And.intro (by omega) ?_)
        refine⟨(j+1,b,nw,true),hK _ ⟨(show j+1≤n by omega),(show j+1≤9 by omega),hb,(show b.length≤400*(j+1) by omega),hNx,he⟩ (show n-(j+1)<n-j by omega),Hd.of [0,1,2,3,4,5,6,11,8,9] (by decide) (by decide) (by simp) ?_⟩
        simp only[pmV_t,pmB_t,gcVs_ints,gc,gcVs,gcV,posOf,gcH,gcB,Option.map_some,Option.map_none,List.replicate_zero,List.drop_zero,↓evA,evB,evs,evp,mkB,repB,blen,↓retQ,res,resAll,resOne,kill,apartOk,exp,injV,injB,pur,purs,purR,pursR,List.reduceReplicate,Nat.reduceAdd,Nat.reduceMul,Nat.reduceSub,Nat.reduceEqDiff,Nat.reduceLT,Int.reduceToNat,Int.reduceLE,Int.reduceLT,Int.reduceEq,reduceCtorEq,↓reduceIte]
      by_cases c3:(r:Int)=3
      · have qg:preAg [.p (fsS b now),.v (.rsl 1 B.length .u8 B)]:=⟨_,_,_,rfl,hb,by omega,hn,part_rsl hBd,by rw[flq];omega⟩
        have fg:FAg [.p (fsS b now),.v (.rsl 1 B.length .u8 B)]=([.x::now.map (fun x=>.v (.int .u8 x))],.one (.p (fsS b (hmac zz (pskOf (flat [V.rsl 1 B.length .u8 B])))))):=rfl
        rw[flq]at fg
        have qb:preBeg2 [.v (.rsl 1 B.length .u8 B)]:=⟨B,rfl,hBd,by omega⟩
        have fb:FBeg2 [.v (.rsl 1 B.length .u8 B)]=.one (.v (.ints .u8 (hmac zz (pskOf B)))):=rfl
        have hNw:Sec (hmac zz (pskOf B)):=⟨hmac_len _ _,hmac_dig _ _⟩
        generalize hmac zz (pskOf B)=nw at *
        have lw:=hNw.1
        have e3:∀c:V,spl (c::now.map (V.int .u8)) 1 (nw.map (V.int .u8))=c::nw.map (V.int .u8):=fun c=>by simp[spl,hnl,lw]
        simp only[fsS]at qg fg
        simp only[d1,wj,heq,n4,w4,g3,ga,x1,x2,x3,c2,c3,pmV_t,pmB_t,qg,fg,qb,fb,lw,e1,e2,e3,↓rN,hnl,sb,injs_ints,blks_ints,cnts_ints,idsEs_N,↓frzs_ints,List.length_map,sub_zero,qdb,qai,List.length_cons,List.length_nil,Nat.reduceAdd,Nat.le_refl,Nat.reduceLeDiff,Nat.reduceLT,true_and,and_true,↓qar,↓qan,↓qao,↓qap,↓qam,↓qaj,↓qak,↓qaq,↓qal,idsEs,idsE,idss,killB,effE,stA,wBlk,deads,nwA,cntA,cnts,cnt,valO,blkO,inj,injs,blk,blks,outA,outR,outE,outEs,sids,List.nodup_cons,List.nodup_nil,List.not_mem_nil,List.mem_cons,or_false,false_or,not_or,↓evA,evB,evs,evp,mkB,repB,blen,↓retQ,res,resAll,resOne,kill,apartOk,exp,injV,injB,pur,purs,purR,pursR,List.reduceReplicate,Nat.reduceMul,Nat.reduceSub,Nat.reduceEqDiff,Int.reduceToNat,Int.reduceLE,Int.reduceLT,Int.reduceEq,reduceCtorEq,↓reduceIte]
        repeat(refine And.intro (by omega) ?_)
        repeat' (refine And.intro ?_ ?_)
        all_goals
          refine⟨(j+1,b,nw,true),hK _ ⟨(show j+1≤n by omega),(show j+1≤9 by omega),hb,(show b.length≤400*(j+1) by omega),hNw,he⟩ (show n-(j+1)<n-j by omega),Hd.of [0,1,2,3,4,5,11,12,8,9] (by decide) (by decide) (by simp) ?_⟩
          simp only[pmV_t,pmB_t,gcVs_ints,gc,gcVs,gcV,posOf,gcH,gcB,Option.map_some,Option.map_none,List.replicate_zero,List.drop_zero,↓evA,evB,evs,evp,mkB,repB,blen,↓retQ,res,resAll,resOne,kill,apartOk,exp,injV,injB,pur,purs,purR,pursR,List.reduceReplicate,Nat.reduceAdd,Nat.reduceMul,Nat.reduceSub,Nat.reduceEqDiff,Nat.reduceLT,Int.reduceToNat,Int.reduceLE,Int.reduceLT,Int.reduceEq,reduceCtorEq,↓reduceIte]
      have qa:preAdL [.p (fsS b now),.v (.rcs 1 2 [.rsl 1 B.length .u8 B,.rsl 1 C.length .u8 C])]:=⟨b,now,[.rsl 1 B.length .u8 B,.rsl 1 C.length .u8 C],rfl,hb,hn,parts_cons (part_rsl hBd) (parts_cons (part_rsl hCd) parts_nil),by simp,by rw[flat2];simp only[List.length_append];omega⟩
      have fa:FAdL [.p (fsS b now),.v (.rcs 1 2 [.rsl 1 B.length .u8 B,.rsl 1 C.length .u8 C])]=([fsS (b++(B++C)) now],.many []):=by
        show ([fsS (b++flat [V.rsl 1 B.length .u8 B,V.rsl 1 C.length .u8 C]) now],EOut.many [])=_
        rw[flat2]
      simp only[fsS]at qa fa
      simp only[d1,wj,heq,n4,w4,g3,ga,x1,x2,x3,c2,c3,pmV_t,pmB_t,qa,fa,e1,e2,↓rN,hnl,sb,injs_ints,blks_ints,cnts_ints,idsEs_N,↓frzs_ints,List.length_map,List.length_nil,sub_zero,qdb,qai,List.length_cons,Nat.reduceAdd,Nat.le_refl,Nat.reduceLeDiff,Nat.reduceLT,true_and,and_true,↓qar,↓qan,↓qao,↓qap,↓qam,↓qaj,↓qak,↓qaq,↓qal,idsEs,idsE,idss,killB,effE,stA,wBlk,deads,nwA,cntA,cnts,cnt,valO,blkO,inj,injs,blk,blks,outA,outR,outE,outEs,sids,List.nodup_cons,List.nodup_nil,List.not_mem_nil,List.mem_cons,or_false,false_or,not_or,↓evA,evB,evs,evp,mkB,repB,blen,↓retQ,res,resAll,resOne,kill,apartOk,exp,injV,injB,pur,purs,purR,pursR,List.reduceReplicate,Nat.reduceMul,Nat.reduceSub,Nat.reduceEqDiff,Int.reduceToNat,Int.reduceLE,Int.reduceLT,Int.reduceEq,reduceCtorEq,↓reduceIte]
      repeat(refine And.intro (by omega) ?_)
      refine awp_loopA (n:=190) hA [2,3,9,10,12,15,42,43,44,77,78] (by decide +kernel) (fun x:Nat×List Int=>[.str l,.slice 5 0 1 m.length m.length,.ptr 6 0,.ptr 8 0,.ptr 10 0,.slice 12 0 1 B.length B.length,.rcs 3 n cs,.int .i64 (n:Int),.int .i64 (j:Int),.int .i64 (B.length:Int),.int .i64 (x.1:Int)])
        (fun x=>[.ints true .u64 roots,.ints true .u64 roots,.ints true .u64 seconds,.dead,.ints true .u8 p,.ints true .u8 m,.cells false (.slice 14 0 1 (b.length+(B.length+C.length)) (b.length+(B.length+C.length))::now.map (V.int .u8)),.dead,.cells false (.slice 9 0 1 b.length b.length::now.map (V.int .u8)),.ints false .u8 b,.cells false [.int .u8 (q:Int),.rsl 1 B.length .u8 B,.rsl 1 C.length .u8 C],.dead,.ints false .u8 x.2,.cells false [.slice 12 0 1 B.length B.length,.rsl 1 C.length .u8 C],.ints false .u8 (b++(B++C))])
        (fun x=>x.1≤B.length∧x.2.length=B.length) (fun x=>B.length-x.1) (0,B) ?_ ⟨by omega,rfl⟩ ?_
      · refine Hd.same ?_
        simp only[show ((0:Nat):Int)=0 from rfl,↓evA,evB,evs,evp,mkB,repB,blen,↓retQ,res,resAll,resOne,kill,apartOk,exp,injV,injB,pur,purs,purR,pursR,List.reduceReplicate,Nat.reduceAdd,Nat.reduceMul,Nat.reduceSub,Nat.reduceEqDiff,Nat.reduceLT,Int.reduceToNat,Int.reduceLE,Int.reduceLT,Int.reduceEq,reduceCtorEq,↓reduceIte]
      rintro ⟨i,xs⟩ ⟨hi,hxl⟩ K1 hK1
      simp only at hi hxl hK1
      simp only[s18,s25,s20,s24,sAdd,sNx,sTr01,sAg,sNew2,sSm01,sBnd,sBeg2,sMac2,shS1]
      by_cases hli:i<B.length
      · have d2:(i:Int)<(B.length:Int):=by omega
        have wi:Go.IntKind.i64.wrap ((i:Int)+1)=((i+1:Nat):Int):=by rw[wrap_i64];omega
        simp only[d2,wi,hxl,hli,sub_zero,qdb,qai,List.length_cons,List.length_nil,Nat.reduceAdd,Nat.le_refl,Nat.reduceLeDiff,Nat.reduceLT,true_and,and_true,↓evA,evB,evs,evp,mkB,repB,blen,↓retQ,res,resAll,resOne,kill,apartOk,exp,injV,injB,pur,purs,purR,pursR,List.reduceReplicate,Nat.reduceMul,Nat.reduceSub,Nat.reduceEqDiff,Int.reduceToNat,Int.reduceLE,Int.reduceLT,Int.reduceEq,reduceCtorEq,↓reduceIte]
        repeat(refine And.intro (by omega) ?_)
        refine⟨(i+1,xs.set i (bXor .u8 (getI xs i) 255)),hK1 _ ⟨(show i+1≤B.length by omega),(show (xs.set i (bXor .u8 (getI xs i) 255)).length=B.length by rw[List.length_set,hxl])⟩ (show B.length-(i+1)<B.length-i by omega),Hd.same ?_⟩
        simp only[↓evA,evB,evs,evp,mkB,repB,blen,↓retQ,res,resAll,resOne,kill,apartOk,exp,injV,injB,pur,purs,purR,pursR,List.reduceReplicate,Nat.reduceAdd,Nat.reduceMul,Nat.reduceSub,Nat.reduceEqDiff,Nat.reduceLT,Int.reduceToNat,Int.reduceLE,Int.reduceLT,Int.reduceEq,reduceCtorEq,↓reduceIte]
      obtain rfl:i=B.length:=by omega
      have d2:¬(B.length:Int)<(B.length:Int):=by omega
      have hNd:Dig 256 (b++(B++C)):=hb.append (hBd.append hCd)
      simp only[d2,wj,sb,sub_zero,qdb,qai,List.length_cons,List.length_nil,Nat.reduceAdd,Nat.le_refl,Nat.reduceLeDiff,Nat.reduceLT,true_and,and_true,↓evA,evB,evs,evp,mkB,repB,blen,↓retQ,res,resAll,resOne,kill,apartOk,exp,injV,injB,pur,purs,purR,pursR,List.reduceReplicate,Nat.reduceMul,Nat.reduceSub,Nat.reduceEqDiff,Int.reduceToNat,Int.reduceLE,Int.reduceLT,Int.reduceEq,reduceCtorEq,↓reduceIte]
      repeat(refine And.intro (by omega) ?_)
      refine⟨(j+1,(b++(B++C)),now,true),hK _ ⟨(show j+1≤n by omega),(show j+1≤9 by omega),hNd,(show (b++(B++C)).length≤400*(j+1) by simp only[List.length_append];omega),hn,fun h=>by cases h⟩ (show n-(j+1)<n-j by omega),Hd.of [0,1,2,3,4,5,6,14,8,18] (by decide) (by decide) (by simp) ?_⟩
      simp only[pmV_t,pmB_t,gcVs_ints,Nat.add_assoc,gc,gcVs,gcV,posOf,gcH,gcB,Option.map_some,Option.map_none,List.replicate_zero,List.drop_zero,↓evA,evB,evs,evp,mkB,repB,blen,↓retQ,res,resAll,resOne,kill,apartOk,exp,injV,injB,pur,purs,purR,pursR,List.reduceReplicate,Nat.reduceAdd,Nat.reduceMul,Nat.reduceSub,Nat.reduceEqDiff,Nat.reduceLT,Int.reduceToNat,Int.reduceLE,Int.reduceLT,Int.reduceEq,reduceCtorEq,↓reduceIte]
  have d1:¬(j:Int)<(n:Int):=by omega
  cases e with
  | false =>
    obtain rfl:=he rfl
    have hob:=obj_rsl hb (by omega) hn
    have uS:pre24 [.s .u8 ([]:List Int)]:=⟨([]:List Int),rfl,hb,by omega⟩
    have gS:F24 [.s .u8 ([]:List Int)]=.one (.v (.ints .u8 (sumS ([]:List Int)))):=rfl
    have u0:pre24 [.s .u8 []]:=⟨[],rfl,dn,by simp⟩
    have g0:F24 [.s .u8 []]=.one (.v (.ints .u8 (sumS []))):=rfl
    have uM:pre24 [.s .u8 m]:=⟨m,rfl,hm,by omega⟩
    have gM:F24 [.s .u8 m]=.one (.v (.ints .u8 (sumS m))):=rfl
    have ut:=trq (l:=l) hb (by omega) hn hl (by omega)
    have gt:=trf (l:=l) hb (by omega) hn
    have us0:preSm01 [.v (.rpc (csS (.rsl 1 ([]:List Int).length .u8 ([]:List Int)) now) 0),.v .nils]:=.inl ⟨_,([]:List Int),now,rfl,hob⟩
    have gs0:FSm01 [.v (.rpc (csS (.rsl 1 ([]:List Int).length .u8 ([]:List Int)) now) 0),.v .nils]=.one (.v (.ints .u8 (sumS (getO (.rpc (csS (.rsl 1 ([]:List Int).length .u8 ([]:List Int)) now) 0)).1))):=rfl
    have us1:preSm01 [.v (.rpc (csS (.rsl 1 ([]:List Int).length .u8 ([]:List Int)) now) 0),.v (.rcs 1 1 [.rsl 1 m.length .u8 m])]:=.inr ⟨_,_,([]:List Int),now,rfl,hob,part_rsl hm,by rw[flq];omega⟩
    have gs1:FSm01 [.v (.rpc (csS (.rsl 1 ([]:List Int).length .u8 ([]:List Int)) now) 0),.v (.rcs 1 1 [.rsl 1 m.length .u8 m])]=.one (.v (.ints .u8 (sumS ((getO (.rpc (csS (.rsl 1 ([]:List Int).length .u8 ([]:List Int)) now) 0)).1++flat [V.rsl 1 m.length .u8 m])))):=rfl
    have ub:preBnd [.v (.rpc (csS (.rsl 1 ([]:List Int).length .u8 ([]:List Int)) now) 0),.v (.rsl 1 m.length .u8 m)]:=⟨_,_,([]:List Int),now,rfl,hob,part_rsl hm,by rw[flq];omega⟩
    have gb:FBnd [.v (.rpc (csS (.rsl 1 ([]:List Int).length .u8 ([]:List Int)) now) 0),.v (.rsl 1 m.length .u8 m)]=.one (.v (.ints .u8 (finS (labkey (getO (.rpc (csS (.rsl 1 ([]:List Int).length .u8 ([]:List Int)) now) 0)).2 lbnd (sumS [])) (sumS (flat [V.rsl 1 m.length .u8 m]))))):=rfl
    rw[getO_obj hob]at gs0 gs1 gb
    rw[flq]at gs1 gb
    have hS:=sumS_sec ([]:List Int)
    have hS0:=sumS_sec []
    have hSm:=sumS_sec m
    have dC:Dig 256 (trfC l):=fun x hx=>by
      simp only[trfC,List.mem_cons,List.mem_append,List.not_mem_nil,or_false]at hx
      rcases hx with rfl | rfl | hx | rfl | rfl | rfl | rfl | rfl | rfl | rfl | rfl
      all_goals first | exact hl x hx | decide
    have dS:Dig 256 (trfS l):=fun x hx=>by
      simp only[trfS,List.mem_cons,List.mem_append,List.not_mem_nil,or_false]at hx
      rcases hx with rfl | rfl | hx | rfl | rfl | rfl | rfl | rfl | rfl | rfl | rfl
      all_goals first | exact hl x hx | decide
    have lC:(trfC l).length≤200:=by simp[trfC];omega
    have lS:(trfS l).length≤200:=by simp[trfS];omega
    have vC:preDrv [.v (.ints .u8 now),.v (.str (trfC l)),.s .u8 (sumS ([]:List Int))]:=⟨_,_,_,rfl,hn,dC,by omega,hS.2,by rw[hS.1];decide⟩
    have wC:F25 [.v (.ints .u8 now),.v (.str (trfC l)),.s .u8 (sumS ([]:List Int))]=.one (.v (.ints .u8 (labkey now (trfC l) (sumS ([]:List Int))))):=by
      rw[←drv_lab lC (by rw[hS.1];decide)];rfl
    have vS:preDrv [.v (.ints .u8 now),.v (.str (trfS l)),.s .u8 (sumS ([]:List Int))]:=⟨_,_,_,rfl,hn,dS,by omega,hS.2,by rw[hS.1];decide⟩
    have wS:F25 [.v (.ints .u8 now),.v (.str (trfS l)),.s .u8 (sumS ([]:List Int))]=.one (.v (.ints .u8 (labkey now (trfS l) (sumS ([]:List Int))))):=by
      rw[←drv_lab lS (by rw[hS.1];decide)];rfl
    have vB:preDrv [.v (.ints .u8 now),.v (.str lbnd),.s .u8 (sumS [])]:=⟨_,_,_,rfl,hn,lit_dig rfl,by decide,hS0.2,by rw[hS0.1];decide⟩
    have wB:F25 [.v (.ints .u8 now),.v (.str lbnd),.s .u8 (sumS [])]=.one (.v (.ints .u8 (labkey now lbnd (sumS [])))):=by
      rw[←drv_lab (by decide) (by rw[hS0.1];decide)];rfl
    have vF:preSS [.v (.ints .u8 (labkey now lbnd (sumS []))),.v (.ints .u8 (sumS m))]:=⟨_,_,rfl,labkey_sec _ _ _,hSm⟩
    have wF:F20 [.v (.ints .u8 (labkey now lbnd (sumS []))),.v (.ints .u8 (sumS m))]=.one (.v (.ints .u8 (finS (labkey now lbnd (sumS [])) (sumS m)))):=rfl
    have kA:=(labkey_sec now (trfC l) (sumS ([]:List Int))).1
    have kB:=(labkey_sec now (trfS l) (sumS ([]:List Int))).1
    have kC:=(labkey_sec now lbnd (sumS [])).1
    have kF:(finS (labkey now lbnd (sumS [])) (sumS m)).length=32:=hmac_len _ _
    simp only[List.length_nil,List.nil_append]at ut gt us0 gs0 us1 gs1 ub gb
    generalize finS (labkey now lbnd (sumS [])) (sumS m)=X4 at *
    generalize labkey now (trfC l) (sumS ([]:List Int))=X1 at *
    generalize labkey now (trfS l) (sumS ([]:List Int))=X2 at *
    generalize labkey now lbnd (sumS [])=X3 at *
    have l1:=hS.1
    have l0:=hS0.1
    have lm:=hSm.1
    generalize sumS []=S0 at *
    generalize sumS m=Sm at *
    have z:∀{Z:List Int},Z.length=32→spl [0,0,0,0,0,0,0,0,0,0,0,0,0,0,0,0,0,0,0,0,0,0,0,0,0,0,0,0,0,0,0,0] 0 Z=Z:=fun h=>qdb (by simp[h])
    have s32:∀{Z:List Int},Z.length=32→sub Z 0 32=Z:=fun h=>sub_zero h
    have z1:=z kA
    have z2:=z kB
    have z3:=z l1
    have z4:=z l0
    have z5:=z lm
    have y1:=s32 kA
    have y2:=s32 kB
    have y3:=s32 l1
    have y4:=s32 l0
    have y5:=s32 lm
    simp only[csS]at ut gt us0 gs0 us1 gs1 ub gb
    simp only[trfC]at vC wC
    simp only[trfS]at vS wS
    simp only[lbnd]at vB wB
    simp only[d1,pmV_f,pmB_f,List.length_nil,uS,gS,u0,g0,uM,gM,ut,gt,us0,gs0,us1,gs1,ub,gb,vC,wC,vS,wS,vB,wB,vF,wF,kA,kB,kC,kF,l1,l0,lm,z1,z2,z3,z4,z5,y1,y2,y3,y4,y5,↓rN,hnl,e1,e2,sb,smm,eq_self,injs_ints,blks_ints,cnts_ints,idsEs_N,↓frzs_ints,List.length_map,sub_zero,qdb,qai,List.length_cons,Nat.reduceAdd,Nat.le_refl,Nat.reduceLeDiff,Nat.reduceLT,true_and,and_true,↓qar,↓qan,↓qao,↓qap,↓qam,↓qaj,↓qak,↓qaq,↓qal,idsEs,idsE,idss,killB,effE,stA,wBlk,deads,nwA,cntA,cnts,cnt,valO,blkO,inj,injs,blk,blks,outA,outR,outE,outEs,sids,List.nodup_cons,List.nodup_nil,List.not_mem_nil,List.mem_cons,or_false,false_or,not_or,↓evA,evB,evs,evp,mkB,repB,blen,↓retQ,res,resAll,resOne,kill,apartOk,exp,injV,injB,pur,purs,purR,pursR,List.reduceReplicate,Nat.reduceMul,Nat.reduceSub,Nat.reduceEqDiff,Int.reduceToNat,Int.reduceLE,Int.reduceLT,Int.reduceEq,reduceCtorEq,↓reduceIte]
    repeat(first | exact out_bool rfl | refine And.intro (by omega) ?_)
  | true =>
    have hob:=obj_rsl hb (by omega) hn
    have uS:pre24 [.s .u8 b]:=⟨b,rfl,hb,by omega⟩
    have gS:F24 [.s .u8 b]=.one (.v (.ints .u8 (sumS b))):=rfl
    have u0:pre24 [.s .u8 []]:=⟨[],rfl,dn,by simp⟩
    have g0:F24 [.s .u8 []]=.one (.v (.ints .u8 (sumS []))):=rfl
    have uM:pre24 [.s .u8 m]:=⟨m,rfl,hm,by omega⟩
    have gM:F24 [.s .u8 m]=.one (.v (.ints .u8 (sumS m))):=rfl
    have uB:pre24 [.s .u8 (b++m)]:=⟨b++m,rfl,hb.append hm,by rw[List.length_append];omega⟩
    have gB:F24 [.s .u8 (b++m)]=.one (.v (.ints .u8 (sumS (b++m)))):=rfl
    have ut:=trq (l:=l) hb (by omega) hn hl (by omega)
    have gt:=trf (l:=l) hb (by omega) hn
    have us0:preSm01 [.v (.rpc (csS (.rsl 1 b.length .u8 b) now) 0),.v .nils]:=.inl ⟨_,b,now,rfl,hob⟩
    have gs0:FSm01 [.v (.rpc (csS (.rsl 1 b.length .u8 b) now) 0),.v .nils]=.one (.v (.ints .u8 (sumS (getO (.rpc (csS (.rsl 1 b.length .u8 b) now) 0)).1))):=rfl
    have us1:preSm01 [.v (.rpc (csS (.rsl 1 b.length .u8 b) now) 0),.v (.rcs 1 1 [.rsl 1 m.length .u8 m])]:=.inr ⟨_,_,b,now,rfl,hob,part_rsl hm,by rw[flq];omega⟩
    have gs1:FSm01 [.v (.rpc (csS (.rsl 1 b.length .u8 b) now) 0),.v (.rcs 1 1 [.rsl 1 m.length .u8 m])]=.one (.v (.ints .u8 (sumS ((getO (.rpc (csS (.rsl 1 b.length .u8 b) now) 0)).1++flat [V.rsl 1 m.length .u8 m])))):=rfl
    have ub:preBnd [.v (.rpc (csS (.rsl 1 b.length .u8 b) now) 0),.v (.rsl 1 m.length .u8 m)]:=⟨_,_,b,now,rfl,hob,part_rsl hm,by rw[flq];omega⟩
    have gb:FBnd [.v (.rpc (csS (.rsl 1 b.length .u8 b) now) 0),.v (.rsl 1 m.length .u8 m)]=.one (.v (.ints .u8 (finS (labkey (getO (.rpc (csS (.rsl 1 b.length .u8 b) now) 0)).2 lbnd (sumS [])) (sumS (flat [V.rsl 1 m.length .u8 m]))))):=rfl
    rw[getO_obj hob]at gs0 gs1 gb
    rw[flq]at gs1 gb
    have hS:=sumS_sec b
    have hS0:=sumS_sec []
    have hSm:=sumS_sec m
    have dC:Dig 256 (trfC l):=fun x hx=>by
      simp only[trfC,List.mem_cons,List.mem_append,List.not_mem_nil,or_false]at hx
      rcases hx with rfl | rfl | hx | rfl | rfl | rfl | rfl | rfl | rfl | rfl | rfl
      all_goals first | exact hl x hx | decide
    have dS:Dig 256 (trfS l):=fun x hx=>by
      simp only[trfS,List.mem_cons,List.mem_append,List.not_mem_nil,or_false]at hx
      rcases hx with rfl | rfl | hx | rfl | rfl | rfl | rfl | rfl | rfl | rfl | rfl
      all_goals first | exact hl x hx | decide
    have lC:(trfC l).length≤200:=by simp[trfC];omega
    have lS:(trfS l).length≤200:=by simp[trfS];omega
    have vC:preDrv [.v (.ints .u8 now),.v (.str (trfC l)),.s .u8 (sumS b)]:=⟨_,_,_,rfl,hn,dC,by omega,hS.2,by rw[hS.1];decide⟩
    have wC:F25 [.v (.ints .u8 now),.v (.str (trfC l)),.s .u8 (sumS b)]=.one (.v (.ints .u8 (labkey now (trfC l) (sumS b)))):=by
      rw[←drv_lab lC (by rw[hS.1];decide)];rfl
    have vS:preDrv [.v (.ints .u8 now),.v (.str (trfS l)),.s .u8 (sumS b)]:=⟨_,_,_,rfl,hn,dS,by omega,hS.2,by rw[hS.1];decide⟩
    have wS:F25 [.v (.ints .u8 now),.v (.str (trfS l)),.s .u8 (sumS b)]=.one (.v (.ints .u8 (labkey now (trfS l) (sumS b)))):=by
      rw[←drv_lab lS (by rw[hS.1];decide)];rfl
    have vB:preDrv [.v (.ints .u8 now),.v (.str lbnd),.s .u8 (sumS [])]:=⟨_,_,_,rfl,hn,lit_dig rfl,by decide,hS0.2,by rw[hS0.1];decide⟩
    have wB:F25 [.v (.ints .u8 now),.v (.str lbnd),.s .u8 (sumS [])]=.one (.v (.ints .u8 (labkey now lbnd (sumS [])))):=by
      rw[←drv_lab (by decide) (by rw[hS0.1];decide)];rfl
    have vF:preSS [.v (.ints .u8 (labkey now lbnd (sumS []))),.v (.ints .u8 (sumS m))]:=⟨_,_,rfl,labkey_sec _ _ _,hSm⟩
    have wF:F20 [.v (.ints .u8 (labkey now lbnd (sumS []))),.v (.ints .u8 (sumS m))]=.one (.v (.ints .u8 (finS (labkey now lbnd (sumS [])) (sumS m)))):=rfl
    have kA:=(labkey_sec now (trfC l) (sumS b)).1
    have kB:=(labkey_sec now (trfS l) (sumS b)).1
    have kC:=(labkey_sec now lbnd (sumS [])).1
    have kF:(finS (labkey now lbnd (sumS [])) (sumS m)).length=32:=hmac_len _ _
    generalize finS (labkey now lbnd (sumS [])) (sumS m)=X4 at *
    generalize labkey now (trfC l) (sumS b)=X1 at *
    generalize labkey now (trfS l) (sumS b)=X2 at *
    generalize labkey now lbnd (sumS [])=X3 at *
    have l1:=hS.1
    have l0:=hS0.1
    have lm:=hSm.1
    have lU:=(sumS_sec (b++m)).1
    generalize sumS (b++m)=U at *
    generalize sumS b=Sb at *
    generalize sumS []=S0 at *
    generalize sumS m=Sm at *
    have z:∀{Z:List Int},Z.length=32→spl [0,0,0,0,0,0,0,0,0,0,0,0,0,0,0,0,0,0,0,0,0,0,0,0,0,0,0,0,0,0,0,0] 0 Z=Z:=fun h=>qdb (by simp[h])
    have s32:∀{Z:List Int},Z.length=32→sub Z 0 32=Z:=fun h=>sub_zero h
    have z1:=z kA
    have z2:=z kB
    have z3:=z l1
    have z4:=z l0
    have z5:=z lm
    have y1:=s32 kA
    have y2:=s32 kB
    have y3:=s32 l1
    have y4:=s32 l0
    have y5:=s32 lm
    have y6:=s32 lU
    simp only[csS]at ut gt us0 gs0 us1 gs1 ub gb
    simp only[trfC]at vC wC
    simp only[trfS]at vS wS
    simp only[lbnd]at vB wB
    simp only[d1,pmV_t,pmB_t,uS,gS,u0,g0,uM,gM,uB,gB,ut,gt,us0,gs0,us1,gs1,ub,gb,vC,wC,vS,wS,vB,wB,vF,wF,kA,kB,kC,kF,l1,l0,lm,lU,z1,z2,z3,z4,z5,y1,y2,y3,y4,y5,y6,↓rN,hnl,e1,e2,sb,smm,eq_self,injs_ints,blks_ints,cnts_ints,idsEs_N,↓frzs_ints,List.length_map,sub_zero,qdb,qai,List.length_cons,List.length_nil,Nat.reduceAdd,Nat.le_refl,Nat.reduceLeDiff,Nat.reduceLT,true_and,and_true,↓qar,↓qan,↓qao,↓qap,↓qam,↓qaj,↓qak,↓qaq,↓qal,idsEs,idsE,idss,killB,effE,stA,wBlk,deads,nwA,cntA,cnts,cnt,valO,blkO,inj,injs,blk,blks,outA,outR,outE,outEs,sids,List.nodup_cons,List.nodup_nil,List.not_mem_nil,List.mem_cons,or_false,false_or,not_or,↓evA,evB,evs,evp,mkB,repB,blen,↓retQ,res,resAll,resOne,kill,apartOk,exp,injV,injB,pur,purs,purR,pursR,List.reduceReplicate,Nat.reduceMul,Nat.reduceSub,Nat.reduceEqDiff,Int.reduceToNat,Int.reduceLE,Int.reduceLT,Int.reduceEq,reduceCtorEq,↓reduceIte]
    repeat(first | exact out_bool rfl | refine And.intro (by omega) ?_)
end Am
