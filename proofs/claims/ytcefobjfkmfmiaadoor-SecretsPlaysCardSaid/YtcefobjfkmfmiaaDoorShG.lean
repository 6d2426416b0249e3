/-
Working texts: contracts of functions, and the numbers behind them.
-/
import Derived.Test.YtcefobjfkmfmiaaDoorShF
import Derived.Test.YtcefobjfkmfmiaaDoorIrB
set_option linter.unusedSimpArgs false
set_option linter.unusedVariables false
set_option linter.unusedSectionVars false
set_option maxRecDepth 20000
namespace Am
open Go.Proofs
/-- Parts that are no memory of the caller's own stay as they are. -/
theorem frzs_pure {hp:List Blk} {d:Nat}:∀{vs:List V} {J:List V→Prop},(∀v∈vs,Part v)→frzs (frz hp (d+1)) vs J=J vs
  | [],J,_=>by rw[frzs]
  | v::r,J,h=>by
    have ih:=@frzs_pure hp d r
    have h1:∀J:V→Prop,frz hp (d+1) v J=J v:=fun J=>by
      rcases h v (by simp)with rfl | ⟨xs,rfl,-⟩
      · rw[qbs]
      · rw[qbx]
    rw[frzs,h1,ih fun v hv=>h v (List.mem_cons_of_mem _ hv)]
/-- A number laid over each place. -/
def setF (f:Int→Int) (l:List Int) (i:Nat):List Int:=l.set i (f (getI l i))
theorem setF_len {f:Int→Int} {l:List Int}:∀n,(it (setF f) l n).length=l.length
  | 0=>rfl
  | n+1=>by rw[it,setF,List.length_set,setF_len n]
theorem it_setF {f:Int→Int} {l:List Int}:∀n,n≤l.length→it (setF f) l n=(l.take n).map f++l.drop n
  | 0,_=>by simp[it]
  | n+1,h=>by
    rw[it,it_setF n (by omega),setF]
    have hl:((l.take n).map f).length=n:=by simp;omega
    have hd:l.drop n=l[n]::l.drop (n+1):=List.drop_eq_getElem_cons (by omega)
    have hg:getI ((l.take n).map f++l.drop n) n=l[n]:=by
      rw[getI_eq (by simp;omega),List.getElem_append_right (by omega)]
      simp only[hl,Nat.sub_self]
      rw[List.getElem_drop]
      simp
    rw[hg,List.set_append_right _ _ (by omega),hl,Nat.sub_self,hd,List.set_cons_zero,List.take_succ_eq_append_getElem (by omega),List.map_append]
    simp
theorem it_setF_all {f:Int→Int} {l:List Int} {n:Nat} (h:l.length=n):it (setF f) l n=l.map f:=by
  rw[it_setF n (by omega),List.take_of_length_le (by omega),List.drop_of_length_le (by omega),List.append_nil]
def key0 (k:List Int):List Int:=if k.length>64 then sum256 (padded k 64)else k
def kpad (k:List Int):List Int:=key0 k++List.replicate (64-(key0 k).length) 0
theorem key0_len (k:List Int):(key0 k).length≤64:=by
  unfold key0
  split
  · rw[sum256_len];omega
  · omega
theorem kpad_len (k:List Int):(kpad k).length=64:=by
  have:=key0_len k
  simp[kpad];omega
/-- A sum with a key. -/
def hmac (k m:List Int):List Int:=sum256 (padded ((kpad k).map (fun x=>bXor .u8 x 92)++sum256 (padded ((kpad k).map (fun x=>bXor .u8 x 54)++m) 64)) 64)
theorem hmac_len (k m:List Int):(hmac k m).length=32:=sum256_len _
theorem bXor8_dig (c:Int) {l:List Int}:Dig 256 (l.map fun x=>bXor .u8 x c):=fun x hx=>by
  obtain⟨y,-,rfl⟩:=List.mem_map.1 hx
  unfold bXor
  rw[wrap_u8]
  omega
theorem sum256_dig (p:List Int):Dig 256 (sum256 p):=by
  have h:∀n,Dig 256 (it (O256 (it (block256 p) init256 (p.length/64))) z32 n):=by
    intro n
    induction n with
    | zero=>exact Dig.replicate 32 (by decide)
    | succ n ih =>
      rw[it,O256]
      exact ih.set _ (by rw[wrap_u8];omega) (by rw[wrap_u8];omega)
  exact h 32
theorem hmac_dig (k m:List Int):Dig 256 (hmac k m):=sum256_dig _
theorem spl_key {k:List Int} (h:k.length≤64):spl (List.replicate 64 (0:Int)) 0 ((sub k 0 k.length).take (min k.length 64))=k++List.replicate (64-k.length) 0:=by
  rw[sub_zero rfl,Nat.min_eq_left h,List.take_of_length_le (Nat.le_refl _),spl,List.drop_replicate]
  simp
def pre41 (ds:List D):Prop:=∃(k:List Int) (vs:List V),ds=[.s .u8 k,.v (.rcs 1 vs.length vs)]∧Dig 256 k∧k.length≤549755813888∧(∀v∈vs,Part v)∧(flat vs).length≤549755813888∧vs.length≤549755813888
def F41:List D→Out
  | [.s _ k,.v (.rcs _ _ vs)]=>.one (.v (.ints .u8 (hmac k (flat vs))))
  | _=>bad
def s41:Summ:=sData [.s .u8,.r] pre41 F41
theorem flat_rsl (sz n:Nat) (k:Go.IntKind) (xs:List Int) (r:List V):flat (.rsl sz n k xs::r)=xs++flat r:=rfl
theorem flat_nils (r:List V):flat (.nils::r)=flat r:=rfl
theorem flat_nil:flat []=[]:=rfl
theorem ok41 {g:List Blk} [Ge gl g]:SumOK Tryd.prog g 41 s41∧SumAbs s41:=by
  refine fsumA (l:=[(43,s43)]) mixed gl_plain rfl Tryd.func41 comp41 compR41 nt41 (by simp only[List.mem_cons,List.not_mem_nil,or_false,forall_eq];exact ok43) fun ds ⟨k,vs,hd,hk,hkl,hvs,hfl,hvl⟩ hA=>?_
  subst hd
  simp only[s43]
  have hpu:pursR vs=true:=pursR_parts hvs
  obtain⟨kp,hkp⟩:∃kp,kpad k=kp:=⟨_,rfl⟩
  have hkpl:kp.length=64:=by rw[←hkp,kpad_len]
  have hsub:sub k 0 k.length=k:=sub_zero rfl
  have q0:preParts [.v (.rcs 1 1 [.rsl 1 k.length .u8 k])]:=⟨_,rfl,parts_cons (part_rsl hk) parts_nil,by simp[flat];omega,by simp⟩
  obtain⟨s0,hs0⟩:∃s0,sum256 (padded k 64)=s0:=⟨_,rfl⟩
  have hs0l:s0.length=32:=by rw[←hs0,sum256_len]
  have hsub0:sub s0 0 32=s0:=sub_zero hs0l
  have hpur:∀(hp:List Blk) (J:List V→Prop),frzs (frz hp 3) vs J=J vs:=fun hp J=>frzs_pure hvs
  by_cases hlong:64<k.length
  all_goals
    first
      | (have hc:(64:Int)<k.length:=by omega
         have hk0:key0 k=s0:=by rw[key0,if_pos hlong,hs0])
      | (have hc:¬(64:Int)<k.length:=by omega
         have hk0:key0 k=k:=by rw[key0,if_neg hlong])
    first
      | (have hsp:spl (List.replicate 64 (0:Int)) 0 (s0.take (min 32 64))=kp:=by
           rw[←hkp,kpad,hk0,List.take_of_length_le (by omega),hs0l,spl,hs0l,List.drop_replicate];simp)
      | (have hsp:spl (List.replicate 64 (0:Int)) 0 (k.take (min k.length 64))=kp:=by
           rw[←hkp,kpad,hk0,←spl_key (by omega),hsub])
    simp only[List.reduceReplicate]at hsp
    simp only[ir41,rs41,gl,s43,F43,F41,hc,hsub,q0,hpu,flat_rsl,flat_nil,hs0,hs0l,hsub0,hsp,sub_zero,qdb,qai,List.length_cons,List.length_nil,Nat.reduceAdd,Nat.le_refl,Nat.reduceLeDiff,Nat.reduceLT,true_and,and_true,↓evA,evB,evs,evp,mkB,repB,blen,↓retQ,res,resAll,resOne,kill,apartOk,exp,injV,injB,pur,purs,purR,pursR,List.reduceReplicate,Nat.reduceMul,Nat.reduceSub,Nat.reduceEqDiff,Int.reduceToNat,Int.reduceLE,Int.reduceLT,Int.reduceEq,reduceCtorEq,↓reduceIte]
    refine awp_loopA (n:=46) hA [1,4,6,7,23] (by decide +kernel) (fun i:Nat=>[.rcs 1 vs.length vs,.ptr 5 0,.ptr 6 0,.ptr 7 0,.int .i64 i])
      (fun i=>[.ints true .u64 roots,.dead,.dead,.dead,.ints true .u8 k,.ints false .u8 (List.replicate 32 0),.ints false .u8 (it (setF fun x=>bXor .u8 x 54) kp i),.ints false .u8 (it (setF fun x=>bXor .u8 x 92) kp i)])
      (fun i=>i≤64) (fun i=>64-i) 0 ?_ (by omega) ?_
    · first
        | (refine Hd.same ?_;simp only[it,hsp,↓evA,evB,evs,evp,mkB,repB,blen,↓retQ,res,resAll,resOne,kill,apartOk,exp,injV,injB,pur,purs,purR,pursR,List.reduceReplicate,Nat.reduceAdd,Nat.reduceMul,Nat.reduceSub,Nat.reduceEqDiff,Nat.reduceLT,Int.reduceToNat,Int.reduceLE,Int.reduceLT,Int.reduceEq,reduceCtorEq,↓reduceIte];done)
        | (refine Hd.of [0,1,2,3,4,5,8,9] (by decide) (by decide) (by simp) ?_;simp only[it,hsp,gc,gcVs,gcV,posOf,gcH,gcB,Option.map_some,Option.map_none,List.replicate_zero,List.drop_zero,↓evA,evB,evs,evp,mkB,repB,blen,↓retQ,res,resAll,resOne,kill,apartOk,exp,injV,injB,pur,purs,purR,pursR,List.reduceReplicate,Nat.reduceAdd,Nat.reduceMul,Nat.reduceSub,Nat.reduceEqDiff,Nat.reduceLT,Int.reduceToNat,Int.reduceLE,Int.reduceLT,Int.reduceEq,reduceCtorEq,↓reduceIte];done)
    intro i hi K hK
    obtain⟨a,ha⟩:∃a,it (setF fun x=>bXor .u8 x 54) kp i=a:=⟨_,rfl⟩
    obtain⟨b,hb⟩:∃b,it (setF fun x=>bXor .u8 x 92) kp i=b:=⟨_,rfl⟩
    have hal:a.length=64:=by rw[←ha,setF_len,hkpl]
    have hbl:b.length=64:=by rw[←hb,setF_len,hkpl]
    have w1:Go.IntKind.i64.wrap ((i:Int)+1)=((i+1:Nat):Int):=by rw[wrap_i64];omega
    rw[ha,hb]
    by_cases h64:i<64
    · have c1:(i:Int)<64:=by omega
      simp only[c1,w1,hal,hbl,sub_zero,qdb,qai,List.length_cons,List.length_nil,Nat.reduceAdd,Nat.le_refl,Nat.reduceLeDiff,Nat.reduceLT,true_and,and_true,↓evA,evB,evs,evp,mkB,repB,blen,↓retQ,res,resAll,resOne,kill,apartOk,exp,injV,injB,pur,purs,purR,pursR,List.reduceReplicate,Nat.reduceMul,Nat.reduceSub,Nat.reduceEqDiff,Int.reduceToNat,Int.reduceLE,Int.reduceLT,Int.reduceEq,reduceCtorEq,↓reduceIte]
      repeat(refine And.intro (by omega) ?_)
      refine⟨i+1,hK _ (by omega) (by omega),Hd.same ?_⟩
      simp only[it,ha,hb,setF,↓evA,evB,evs,evp,mkB,repB,blen,↓retQ,res,resAll,resOne,kill,apartOk,exp,injV,injB,pur,purs,purR,pursR,List.reduceReplicate,Nat.reduceAdd,Nat.reduceMul,Nat.reduceSub,Nat.reduceEqDiff,Nat.reduceLT,Int.reduceToNat,Int.reduceLE,Int.reduceLT,Int.reduceEq,reduceCtorEq,↓reduceIte]
    · have c1:¬(i:Int)<64:=by omega
      have hi64:i=64:=by omega
      subst hi64
      have ea:a=kp.map fun x=>bXor .u8 x 54:=by rw[←ha,it_setF_all hkpl]
      have eb:b=kp.map fun x=>bXor .u8 x 92:=by rw[←hb,it_setF_all hkpl]
      have hda:Dig 256 a:=by rw[ea];exact bXor8_dig _
      have hdb:Dig 256 b:=by rw[eb];exact bXor8_dig _
      have q1:preParts [.v (.rcs 1 (1+vs.length) (.rsl 1 64 .u8 a::vs))]:=⟨.rsl 1 64 .u8 a::vs,by simp[Nat.add_comm],parts_cons (part_rsl' hda hal.symm) hvs,by rw[flat_rsl,List.length_append];omega,by rw[List.length_cons];omega⟩
      obtain⟨h1,hh1⟩:∃h1,sum256 (padded (a++flat vs) 64)=h1:=⟨_,rfl⟩
      have hh1l:h1.length=32:=by rw[←hh1,sum256_len]
      have q2:preParts [.v (.rcs 1 2 [.rsl 1 64 .u8 b,.rsl 1 32 .u8 h1])]:=⟨_,rfl,parts_cons (part_rsl' hdb hbl.symm) (parts_cons (part_rsl' (by rw[←hh1];exact sum256_dig _) hh1l.symm) parts_nil),by simp[flat];omega,by simp⟩
      have sa:sub a 0 64=a:=sub_zero hal
      have sb:sub b 0 64=b:=sub_zero hbl
      have s1:sub h1 0 32=h1:=sub_zero hh1l
      have sv:sub vs 0 vs.length=vs:=sub_zero rfl
      have sc:sub (V.slice 6 0 1 64 64::vs) 0 (1+vs.length)=V.slice 6 0 1 64 64::vs:=sub_zero (by simp[Nat.add_comm])
      obtain⟨hm,hhm⟩:∃hm,sum256 (padded (b++h1) 64)=hm:=⟨_,rfl⟩
      have hhml:hm.length=32:=by rw[←hhm,sum256_len]
      have hres:hmac k (flat vs)=hm:=by rw[hmac,hkp,←ea,hh1,←eb,hhm]
      have sm:sub hm 0 32=hm:=sub_zero hhml
      simp only[c1,hal,hbl,sa,sb,s1,sv,sc,sm,↓hpur,q1,q2,hh1,hh1l,hhm,hhml,hres,flat_rsl,flat_nil,s43,F43,sub_zero,qdb,qai,List.length_cons,List.length_nil,Nat.reduceAdd,Nat.le_refl,Nat.reduceLeDiff,Nat.reduceLT,true_and,and_true,↓evA,evB,evs,evp,mkB,repB,blen,↓retQ,res,resAll,resOne,kill,apartOk,exp,injV,injB,pur,purs,purR,pursR,List.reduceReplicate,Nat.reduceMul,Nat.reduceSub,Nat.reduceEqDiff,Int.reduceToNat,Int.reduceLE,Int.reduceLT,Int.reduceEq,reduceCtorEq,↓reduceIte]
      exact⟨by omega,by omega,out_ints rfl⟩
def pre39 (ds:List D):Prop:=∃(k m:List Int),ds=[.s .u8 k,.s .u8 m]∧Dig 256 k∧k.length≤549755813888∧Dig 256 m∧m.length≤549755813888
def F39:List D→Out
  | [.s _ k,.s _ m]=>.one (.v (.ints .u8 (hmac k m)))
  | _=>bad
def s39:Summ:=sData [.s .u8,.s .u8] pre39 F39
theorem ok39 {g:List Blk} [Ge gl g]:SumOK Tryd.prog g 39 s39∧SumAbs s39:=by
  refine fsumA (l:=[(41,s41)]) mixed gl_plain rfl Tryd.func39 comp39 compR39 nt39 (by simp only[List.mem_cons,List.not_mem_nil,or_false,forall_eq];exact ok41) fun ds ⟨k,m,hd,hk,hkl,hm,hml⟩ hA=>?_
  subst hd
  simp only[s41]
  have q:pre41 [.s .u8 k,.v (.rcs 1 1 [.rsl 1 m.length .u8 m])]:=⟨k,_,rfl,hk,hkl,parts_cons (part_rsl hm) parts_nil,by simp[flat];omega,by simp⟩
  have s1:sub k 0 k.length=k:=sub_zero rfl
  have s2:sub m 0 m.length=m:=sub_zero rfl
  obtain⟨h,hh⟩:∃h,hmac k m=h:=⟨_,rfl⟩
  have hhl:h.length=32:=by rw[←hh,hmac_len]
  have sm:sub h 0 32=h:=sub_zero hhl
  simp only[ir39,rs39,gl,s41,F41,F39,q,s1,s2,sm,flat_rsl,flat_nil,hh,hhl,sub_zero,qdb,qai,List.length_cons,List.length_nil,Nat.reduceAdd,Nat.le_refl,Nat.reduceLeDiff,Nat.reduceLT,true_and,and_true,↓evA,evB,evs,evp,mkB,repB,blen,↓retQ,res,resAll,resOne,kill,apartOk,exp,injV,injB,pur,purs,purR,pursR,List.reduceReplicate,Nat.reduceMul,Nat.reduceSub,Nat.reduceEqDiff,Int.reduceToNat,Int.reduceLE,Int.reduceLT,Int.reduceEq,reduceCtorEq,↓reduceIte]
  exact out_ints rfl
/-- Rounds of expanding: what came so far, and the last one. -/
def exps (s info:List Int):Nat→List Int×List Int
  | 0=>([],[])
  | i+1=>((exps s info i).1++hmac s ((exps s info i).2++(info++[((i+1:Nat):Int)])),hmac s ((exps s info i).2++(info++[((i+1:Nat):Int)])))
theorem exps_snd {s info:List Int} {i:Nat}:(exps s info (i+1)).2=hmac s ((exps s info i).2++(info++[((i+1:Nat):Int)])):=by simp only[exps]
theorem exps_len (s info:List Int):∀i,(exps s info i).1.length=32*i
  | 0=>rfl
  | i+1=>by rw[exps,List.length_append,exps_len s info i,hmac_len];omega
def expand (s info:List Int) (n:Nat):List Int:=(exps s info ((n+31)/32)).1.take n
theorem expand_len (s info:List Int) (n:Nat):(expand s info n).length=n:=by
  rw[expand,List.length_take,exps_len];omega
def pre60 (ds:List D):Prop:=∃(s info:List Int) (n:Int),ds=[.v (.ints .u8 s),.s .u8 info,.v (.int .i64 n)]∧Dig 256 s∧s.length=32∧Dig 256 info∧info.length≤274877906944
def F60:List D→Out
  | [.v (.ints _ s),.s _ info,.v (.int _ n)]=>if n<0∨8160<n then .many [.s .u8 [],.v (.int .i64 2)]else .many [.s .u8 (expand s info n.toNat),.v (.int .i64 0)]
  | _=>bad
def s60:Summ:=sData [.v,.s .u8,.v] pre60 F60
theorem exps_dig {s info:List Int}:∀i,Dig 256 (exps s info i).2
  | 0=>fun x hx=>absurd hx (by simp[exps])
  | i+1=>by
    have e:(exps s info (i+1)).2=hmac s ((exps s info i).2++(info++[((i+1:Nat):Int)])):=by simp only[exps]
    rw[e]
    exact hmac_dig _ _
def sl1 (b n:Nat):Nat→V
  | 0=>.nils
  | _+1=>.slice b 0 1 n n
def bl2 (x:List Int×List Int):Nat→List Blk
  | 0=>[]
  | _+1=>[.ints false .u8 x.2,.ints false .u8 x.1]
theorem sl1_0 {b n:Nat}:sl1 b n 0=.nils:=by rw[sl1]
theorem sl1_s {b n i:Nat}:sl1 b n (i+1)=.slice b 0 1 n n:=by rw[sl1]
theorem bl2_0 {x:List Int×List Int}:bl2 x 0=[]:=by rw[bl2]
theorem bl2_s {x:List Int×List Int} {i:Nat}:bl2 x (i+1)=[.ints false .u8 x.2,.ints false .u8 x.1]:=by rw[bl2]
theorem out_many_sl {m b o n cap:Nat} {k:Go.IntKind} {xs ys:List Int} {d:V} {hp:List Blk} (hb:nthB hp b=.ints false k ys) (hm:m≤b) (hn:o+n≤ys.length) (hx:sub ys o n=xs) (hd:pur d=true):out m (.many [.s k xs,.v d]) (.tup [.slice b o 1 n cap,d]) hp:=by
  simp[out,outs,out1,hb,hm,hn,hx,hd]
theorem out_many0 {m:Nat} {hp:List Blk}:out m (.many [.s .u8 [],.v (.int .i64 2)]) (.tup [.nils,.int .i64 2]) hp:=by
  simp[out,outs,out1,pur]
theorem ok60 {g:List Blk} [Ge gl g]:SumOK Tryd.prog g 60 s60∧SumAbs s60:=by
  refine fsumA (l:=[(41,s41)]) mixed gl_plain rfl Tryd.func60 comp60 compR60 nt60 (by simp only[List.mem_cons,List.not_mem_nil,or_false,forall_eq];exact ok41) fun ds ⟨s,info,n,hd,hs,hsl,hin,hil⟩ hA=>?_
  subst hd
  simp only[s41]
  have es:sub s 0 32=s:=sub_zero hsl
  have ei:sub info 0 info.length=info:=sub_zero rfl
  by_cases hn0:n<0
  · simp only[ir60,rs60,gl,s41,F41,F60,hn0,true_or,sub_zero,qdb,qai,List.length_cons,List.length_nil,Nat.reduceAdd,Nat.le_refl,Nat.reduceLeDiff,Nat.reduceLT,true_and,and_true,↓evA,evB,evs,evp,mkB,repB,blen,↓retQ,res,resAll,resOne,kill,apartOk,exp,injV,injB,pur,purs,purR,pursR,List.reduceReplicate,Nat.reduceMul,Nat.reduceSub,Nat.reduceEqDiff,Int.reduceToNat,Int.reduceLE,Int.reduceLT,Int.reduceEq,reduceCtorEq,↓reduceIte]
    exact out_many0
  · by_cases hn1:8160<n
    · simp only[ir60,rs60,gl,s41,F41,F60,hn0,hn1,or_true,sub_zero,qdb,qai,List.length_cons,List.length_nil,Nat.reduceAdd,Nat.le_refl,Nat.reduceLeDiff,Nat.reduceLT,true_and,and_true,↓evA,evB,evs,evp,mkB,repB,blen,↓retQ,res,resAll,resOne,kill,apartOk,exp,injV,injB,pur,purs,purR,pursR,List.reduceReplicate,Nat.reduceMul,Nat.reduceSub,Nat.reduceEqDiff,Int.reduceToNat,Int.reduceLE,Int.reduceLT,Int.reduceEq,reduceCtorEq,↓reduceIte]
      exact out_many0
    · obtain⟨m,rfl⟩:∃m:Nat,n=m:=⟨n.toNat,by omega⟩
      simp only[ir60,rs60,gl,s41,F41,F60,hn0,hn1,or_self,hsl,sub_zero,qdb,qai,List.length_cons,List.length_nil,Nat.reduceAdd,Nat.le_refl,Nat.reduceLeDiff,Nat.reduceLT,true_and,and_true,↓evA,evB,evs,evp,mkB,repB,blen,↓retQ,res,resAll,resOne,kill,apartOk,exp,injV,injB,pur,purs,purR,pursR,List.reduceReplicate,Nat.reduceMul,Nat.reduceSub,Nat.reduceEqDiff,Int.reduceToNat,Int.reduceLE,Int.reduceLT,Int.reduceEq,reduceCtorEq,↓reduceIte]
      refine awp_loopA (n:=40) hA [1,2,3,8,9,10] (by decide +kernel) (fun i:Nat=>[.slice 4 0 1 info.length info.length,.int .i64 m,.ptr 5 0,sl1 7 (32*i) i,sl1 6 32 i,.int .i64 (i+1:Nat)])
        (fun i=>[.ints true .u64 roots,.dead,.dead,.dead,.ints true .u8 info,.ints false .u8 s]++bl2 (exps s info i) i)
        (fun i=>i≤(m+31)/32) (fun i=>(m+31)/32-i) 0 ?_ (by omega) ?_
      · refine Hd.same ?_
        simp only[sl1_0,sl1_s,bl2_0,bl2_s,↓evA,evB,evs,evp,mkB,repB,blen,↓retQ,res,resAll,resOne,kill,apartOk,exp,injV,injB,pur,purs,purR,pursR,List.reduceReplicate,Nat.reduceAdd,Nat.reduceMul,Nat.reduceSub,Nat.reduceEqDiff,Nat.reduceLT,Int.reduceToNat,Int.reduceLE,Int.reduceLT,Int.reduceEq,reduceCtorEq,↓reduceIte]
      intro i hi K hK
      obtain⟨o,ho⟩:∃o,(exps s info i).1=o:=⟨_,rfl⟩
      obtain⟨la,hla⟩:∃la,(exps s info i).2=la:=⟨_,rfl⟩
      have hol:o.length=32*i:=by rw[←ho,exps_len]
      have hlad:Dig 256 la:=by rw[←hla];exact exps_dig i
      have w1:Go.IntKind.i64.wrap (((i+1:Nat):Int)+1)=((i+1+1:Nat):Int):=by rw[wrap_i64];omega
      obtain⟨h,hh⟩:∃h,hmac s (la++(info++[((i+1:Nat):Int)]))=h:=⟨_,rfl⟩
      have hhl:h.length=32:=by rw[←hh,hmac_len]
      have sm:sub h 0 32=h:=sub_zero hhl
      have hst:exps s info (i+1)=(o++h,h):=by rw[exps,ho,hla,hh]
      have hlen:(i=0∧la=[])∨(∃j,i=j+1∧la.length=32):=by
        cases i with
        | zero=>exact .inl ⟨rfl,by rw[←hla];rfl⟩
        | succ j=>exact .inr ⟨j,rfl,by rw[←hla,exps_snd,hmac_len]⟩
      by_cases hc:32*i<m
      · have hc':((32*i:Nat):Int)<m:=by omega
        have hw8:Go.IntKind.u8.wrap ((i+1:Nat):Int)=((i+1:Nat):Int):=by rw[wrap_u8];omega
        have hd1:Dig 256 [((i+1:Nat):Int)]:=fun x hx=>by simp at hx;omega
        rcases hlen with ⟨rfl,rfl⟩ | ⟨j,rfl,hll⟩
        · have hc0:(0:Int)<m:=by omega
          have ho0:o=[]:=by rw[←ho];rfl
          subst ho0
          have q:pre41 [.s .u8 s,.v (.rcs 1 3 [.nils,.rsl 1 info.length .u8 info,.rsl 1 1 .u8 [1]])]:=⟨s,_,rfl,hs,by omega,parts_cons (.inl rfl) (parts_cons (part_rsl hin) (parts_cons (part_rsl' hd1 rfl) parts_nil)),by simp[flat];omega,by simp⟩
          simp only[Nat.zero_add,Int.natCast_one,List.nil_append]at hh hw8 w1 hst
          simp only[sl1_0,sl1_s,bl2_0,bl2_s,hc0,hsl,es,ei,q,sm,w1,hw8,hh,hhl,flat_rsl,flat_nils,flat_nil,s41,F41,Nat.zero_add,Int.natCast_one,sub_zero,qdb,qai,List.length_cons,List.length_nil,Nat.reduceAdd,Nat.le_refl,Nat.reduceLeDiff,Nat.reduceLT,true_and,and_true,↓evA,evB,evs,evp,mkB,repB,blen,↓retQ,res,resAll,resOne,kill,apartOk,exp,injV,injB,pur,purs,purR,pursR,List.reduceReplicate,Nat.reduceMul,Nat.reduceSub,Nat.reduceEqDiff,Int.reduceToNat,Int.reduceLE,Int.reduceLT,Int.reduceEq,reduceCtorEq,↓reduceIte]
          refine⟨1,hK _ (by omega) (by omega),Hd.of [0,1,2,3,4,5,8,9] (by decide) (by decide) (by simp) ?_⟩
          simp only[hst,sl1_s (i:=0),bl2_s (i:=0),gc,gcVs,gcV,posOf,gcH,gcB,Option.map_some,Option.map_none,List.replicate_zero,List.drop_zero,↓evA,evB,evs,evp,mkB,repB,blen,↓retQ,res,resAll,resOne,kill,apartOk,exp,injV,injB,pur,purs,purR,pursR,List.reduceReplicate,Nat.reduceAdd,Nat.reduceMul,Nat.reduceSub,Nat.reduceEqDiff,Nat.reduceLT,Int.reduceToNat,Int.reduceLE,Int.reduceLT,Int.reduceEq,reduceCtorEq,↓reduceIte]
        · have q:pre41 [.s .u8 s,.v (.rcs 1 3 [.rsl 1 32 .u8 la,.rsl 1 info.length .u8 info,.rsl 1 1 .u8 [((j+1+1:Nat):Int)]])]:=⟨s,_,rfl,hs,by omega,parts_cons (part_rsl' hlad hll.symm) (parts_cons (part_rsl hin) (parts_cons (part_rsl' hd1 rfl) parts_nil)),by simp[flat];omega,by simp⟩
          have sla:sub la 0 32=la:=sub_zero hll
          simp only[sl1_0,sl1_s,bl2_0,bl2_s,hc',hsl,es,ei,q,sm,sla,w1,hw8,hh,hhl,ho,hla,hll,flat_rsl,flat_nils,flat_nil,s41,F41,sub_zero,qdb,qai,List.length_cons,List.length_nil,Nat.reduceAdd,Nat.le_refl,Nat.reduceLeDiff,Nat.reduceLT,true_and,and_true,↓evA,evB,evs,evp,mkB,repB,blen,↓retQ,res,resAll,resOne,kill,apartOk,exp,injV,injB,pur,purs,purR,pursR,List.reduceReplicate,Nat.reduceMul,Nat.reduceSub,Nat.reduceEqDiff,Int.reduceToNat,Int.reduceLE,Int.reduceLT,Int.reduceEq,reduceCtorEq,↓reduceIte]
          have e1:32*(j+1)+32=32*(j+1+1):=by omega
          refine⟨by omega,hol,j+1+1,hK _ (by omega) (by omega),Hd.of [0,1,2,3,4,5,10,11] (by decide) (by decide) (by simp) ?_⟩
          simp only[hst,sl1_s,bl2_s,e1,gc,gcVs,gcV,posOf,gcH,gcB,Option.map_some,Option.map_none,List.replicate_zero,List.drop_zero,↓evA,evB,evs,evp,mkB,repB,blen,↓retQ,res,resAll,resOne,kill,apartOk,exp,injV,injB,pur,purs,purR,pursR,List.reduceReplicate,Nat.reduceAdd,Nat.reduceMul,Nat.reduceSub,Nat.reduceEqDiff,Nat.reduceLT,Int.reduceToNat,Int.reduceLE,Int.reduceLT,Int.reduceEq,reduceCtorEq,↓reduceIte]
      · have hc':¬((32*i:Nat):Int)<m:=by omega
        rcases hlen with ⟨rfl,rfl⟩ | ⟨j,rfl,hll⟩
        · have hc0:¬(0:Int)<m:=by omega
          simp only[sl1_0,sl1_s,bl2_0,bl2_s,hc0,s41,F41,sub_zero,qdb,qai,List.length_cons,List.length_nil,Nat.reduceAdd,Nat.le_refl,Nat.reduceLeDiff,Nat.reduceLT,true_and,and_true,↓evA,evB,evs,evp,mkB,repB,blen,↓retQ,res,resAll,resOne,kill,apartOk,exp,injV,injB,pur,purs,purR,pursR,List.reduceReplicate,Nat.reduceMul,Nat.reduceSub,Nat.reduceEqDiff,Int.reduceToNat,Int.reduceLE,Int.reduceLT,Int.reduceEq,reduceCtorEq,↓reduceIte]
          have hm0:m=0:=by omega
          subst hm0
          refine⟨by omega,by omega,by omega,by omega,?_⟩
          simp[out,outs,out1,pur,expand]
        · simp only[sl1_0,sl1_s,bl2_0,bl2_s,hc',ho,hla,s41,F41,sub_zero,qdb,qai,List.length_cons,List.length_nil,Nat.reduceAdd,Nat.le_refl,Nat.reduceLeDiff,Nat.reduceLT,true_and,and_true,↓evA,evB,evs,evp,mkB,repB,blen,↓retQ,res,resAll,resOne,kill,apartOk,exp,injV,injB,pur,purs,purR,pursR,List.reduceReplicate,Nat.reduceMul,Nat.reduceSub,Nat.reduceEqDiff,Int.reduceToNat,Int.reduceLE,Int.reduceLT,Int.reduceEq,reduceCtorEq,↓reduceIte]
          have hm1:(m+31)/32=j+1:=by omega
          refine⟨by omega,by omega,by omega,by omega,out_many_sl (b:=7) (ys:=o) rfl (by omega) (by omega) ?_ rfl⟩
          rw[expand,hm1,ho]
          simp[sub]
/-- What a label and a context say. -/
def labinfo (lab ctx:List Int) (n:Int):List Int:=Go.IntKind.u8.wrap (iShr .i64 n 8)::Go.IntKind.u8.wrap n::Go.IntKind.u8.wrap (Go.IntKind.i64.wrap ((lab.length:Int)+6))::116::108::115::49::51::32::(lab++Go.IntKind.u8.wrap (ctx.length:Int)::ctx)
def Lng (lab ctx:List Int):Prop:=249<lab.length∨255<ctx.length
instance {lab ctx : List Int} : Decidable (Lng lab ctx) := inferInstanceAs (Decidable (_ ∨ _))
theorem labinfo_dig {lab ctx:List Int} {n:Int} (h1:Dig 256 lab) (h2:Dig 256 ctx):Dig 256 (labinfo lab ctx n):=by
  intro x hx
  simp only[labinfo,List.mem_cons,List.mem_append]at hx
  rcases hx with rfl | rfl | rfl | rfl | rfl | rfl | rfl | rfl | rfl | hx | rfl | hx
  · rw[wrap_u8];omega
  · rw[wrap_u8];omega
  · rw[wrap_u8];omega
  · omega
  · omega
  · omega
  · omega
  · omega
  · omega
  · exact h1 x hx
  · rw[wrap_u8];omega
  · exact h2 x hx
theorem labinfo_len {lab ctx:List Int} {n:Int}:(labinfo lab ctx n).length=lab.length+ctx.length+10:=by
  simp only[labinfo,List.length_cons,List.length_append];omega
def pre38 (ds:List D):Prop:=∃(s lab ctx:List Int) (n:Int),ds=[.v (.ints .u8 s),.v (.str lab),.s .u8 ctx,.v (.int .i64 n)]∧Dig 256 s∧s.length=32∧Dig 256 lab∧Dig 256 ctx
def F38:List D→Out
  | [.v (.ints _ s),.v (.str lab),.s _ ctx,.v (.int _ n)]=>if Lng lab ctx then .many [.s .u8 [],.v (.int .i64 8)]else F60 [.v (.ints .u8 s),.s .u8 (labinfo lab ctx n),.v (.int .i64 n)]
  | _=>bad
def s38:Summ:=sData [.v,.v,.s .u8,.v] pre38 F38
theorem out_many8 {m:Nat} {hp:List Blk}:out m (.many [.s .u8 [],.v (.int .i64 8)]) (.tup [.nils,.int .i64 8]) hp:=by
  simp[out,outs,out1,pur]
theorem ok38 {g:List Blk} [Ge gl g]:SumOK Tryd.prog g 38 s38∧SumAbs s38:=by
  refine fsumA (l:=[(60,s60)]) mixed gl_plain rfl Tryd.func38 comp38 compR38 nt38 (by simp only[List.mem_cons,List.not_mem_nil,or_false,forall_eq];exact ok60) fun ds ⟨s,lab,ctx,n,hd,hs,hsl,hlab,hctx⟩ hA=>?_
  subst hd
  simp only[s60]
  have es:sub s 0 32=s:=sub_zero hsl
  have ec:sub ctx 0 ctx.length=ctx:=sub_zero rfl
  by_cases h1:249<lab.length
  · have c1:(249:Int)<lab.length:=by omega
    have c:Lng lab ctx:=.inl h1
    simp only[ir38,rs38,gl,F38,c,c1,hsl,sub_zero,qdb,qai,List.length_cons,List.length_nil,Nat.reduceAdd,Nat.le_refl,Nat.reduceLeDiff,Nat.reduceLT,true_and,and_true,↓evA,evB,evs,evp,mkB,repB,blen,↓retQ,res,resAll,resOne,kill,apartOk,exp,injV,injB,pur,purs,purR,pursR,List.reduceReplicate,Nat.reduceMul,Nat.reduceSub,Nat.reduceEqDiff,Int.reduceToNat,Int.reduceLE,Int.reduceLT,Int.reduceEq,reduceCtorEq,↓reduceIte]
    exact out_many8
  · by_cases h2:255<ctx.length
    · have c1:¬(249:Int)<lab.length:=by omega
      have c2:(255:Int)<ctx.length:=by omega
      have c:Lng lab ctx:=.inr h2
      simp only[ir38,rs38,gl,F38,c,c1,c2,hsl,sub_zero,qdb,qai,List.length_cons,List.length_nil,Nat.reduceAdd,Nat.le_refl,Nat.reduceLeDiff,Nat.reduceLT,true_and,and_true,↓evA,evB,evs,evp,mkB,repB,blen,↓retQ,res,resAll,resOne,kill,apartOk,exp,injV,injB,pur,purs,purR,pursR,List.reduceReplicate,Nat.reduceMul,Nat.reduceSub,Nat.reduceEqDiff,Int.reduceToNat,Int.reduceLE,Int.reduceLT,Int.reduceEq,reduceCtorEq,↓reduceIte]
      exact out_many8
    · have c1:¬(249:Int)<lab.length:=by omega
      have c2:¬(255:Int)<ctx.length:=by omega
      have c:¬Lng lab ctx:=fun h=>h.elim h1 h2
      obtain⟨inf,hinf⟩:∃inf,labinfo lab ctx n=inf:=⟨_,rfl⟩
      have hil:inf.length=lab.length+ctx.length+10:=by rw[←hinf,labinfo_len]
      have hid:Dig 256 inf:=by rw[←hinf];exact labinfo_dig hlab hctx
      have q:pre60 [.v (.ints .u8 s),.s .u8 inf,.v (.int .i64 n)]:=⟨s,inf,n,rfl,hs,hsl,hid,by omega⟩
      have hsi:sub (labinfo lab ctx n) 0 (9+lab.length+1+ctx.length)=inf:=by rw[hinf];exact sub_zero (by omega)
      simp only[labinfo]at hsi
      by_cases h3:n<0∨8160<n
      · simp only[ir38,rs38,gl,F38,F60,c,c1,c2,h3,hsl,es,ec,hinf,hsi,q,sub_zero,qdb,qai,List.length_cons,List.length_nil,Nat.reduceAdd,Nat.le_refl,Nat.reduceLeDiff,Nat.reduceLT,true_and,and_true,↓evA,evB,evs,evp,mkB,repB,blen,↓retQ,res,resAll,resOne,kill,apartOk,exp,injV,injB,pur,purs,purR,pursR,List.reduceReplicate,Nat.reduceMul,Nat.reduceSub,Nat.reduceEqDiff,Int.reduceToNat,Int.reduceLE,Int.reduceLT,Int.reduceEq,reduceCtorEq,↓reduceIte]
        exact⟨by omega,by omega,by omega,by omega,by omega,by omega,out_many_sl (b:=12) (ys:=[]) rfl (by omega) (by simp) rfl rfl⟩
      · simp only[ir38,rs38,gl,F38,F60,c,c1,c2,h3,hsl,es,ec,hinf,hsi,q,sub_zero,qdb,qai,List.length_cons,List.length_nil,Nat.reduceAdd,Nat.le_refl,Nat.reduceLeDiff,Nat.reduceLT,true_and,and_true,↓evA,evB,evs,evp,mkB,repB,blen,↓retQ,res,resAll,resOne,kill,apartOk,exp,injV,injB,pur,purs,purR,pursR,List.reduceReplicate,Nat.reduceMul,Nat.reduceSub,Nat.reduceEqDiff,Int.reduceToNat,Int.reduceLE,Int.reduceLT,Int.reduceEq,reduceCtorEq,↓reduceIte]
        exact⟨by omega,by omega,by omega,by omega,by omega,by omega,out_many_sl (b:=12) (ys:=expand s inf n.toNat) rfl (by omega) (by omega) (sub_zero rfl) rfl⟩
def labkey (s lab ctx:List Int):List Int:=if Lng lab ctx then List.replicate 32 0 else expand s (labinfo lab ctx 32) 32
def pre40 (ds:List D):Prop:=∃(s lab ctx:List Int),ds=[.v (.ints .u8 s),.v (.str lab),.s .u8 ctx]∧Dig 256 s∧s.length=32∧Dig 256 lab∧Dig 256 ctx
def F40:List D→Out
  | [.v (.ints _ s),.v (.str lab),.s _ ctx]=>.one (.v (.ints .u8 (labkey s lab ctx)))
  | _=>bad
def s40:Summ:=sData [.v,.v,.s .u8] pre40 F40
theorem ok40 {g:List Blk} [Ge gl g]:SumOK Tryd.prog g 40 s40∧SumAbs s40:=by
  refine fsumA (l:=[(38,s38)]) mixed gl_plain rfl Tryd.func40 comp40 compR40 nt40 (by simp only[List.mem_cons,List.not_mem_nil,or_false,forall_eq];exact ok38) fun ds ⟨s,lab,ctx,hd,hs,hsl,hlab,hctx⟩ hA=>?_
  subst hd
  simp only[s38]
  have es:sub s 0 32=s:=sub_zero hsl
  have ec:sub ctx 0 ctx.length=ctx:=sub_zero rfl
  have q:pre38 [.v (.ints .u8 s),.v (.str lab),.s .u8 ctx,.v (.int .i64 32)]:=⟨s,lab,ctx,32,rfl,hs,hsl,hlab,hctx⟩
  have hz:spl (List.replicate 32 (0:Int)) 0 (List.take (min 0 32) [])=List.replicate 32 0:=rfl
  have hz2:sub (List.replicate 32 (0:Int)) 0 32=List.replicate 32 0:=rfl
  simp only[List.reduceReplicate]at hz hz2
  by_cases c:Lng lab ctx
  · simp only[hz,hz2,ir40,rs40,gl,F40,F38,labkey,c,hsl,es,ec,q,sub_zero,qdb,qai,List.length_cons,List.length_nil,Nat.reduceAdd,Nat.le_refl,Nat.reduceLeDiff,Nat.reduceLT,true_and,and_true,↓evA,evB,evs,evp,mkB,repB,blen,↓retQ,res,resAll,resOne,kill,apartOk,exp,injV,injB,pur,purs,purR,pursR,List.reduceReplicate,Nat.reduceMul,Nat.reduceSub,Nat.reduceEqDiff,Int.reduceToNat,Int.reduceLE,Int.reduceLT,Int.reduceEq,reduceCtorEq,↓reduceIte]
    exact out_ints rfl
  · have c3:¬((32:Int)<0∨(8160:Int)<32):=by omega
    obtain⟨h,hh⟩:∃h,expand s (labinfo lab ctx 32) 32=h:=⟨_,rfl⟩
    have hhl:h.length=32:=by rw[←hh,expand_len]
    have sm:sub h 0 32=h:=sub_zero hhl
    have et:(32:Int).toNat=32:=rfl
    simp only[ir40,rs40,gl,F40,F38,F60,labkey,c,c3,or_self,Nat.min_self,List.take_of_length_le,et,hh,hhl,sm,hsl,es,ec,q,sub_zero,qdb,qai,List.length_cons,List.length_nil,Nat.reduceAdd,Nat.le_refl,Nat.reduceLeDiff,Nat.reduceLT,true_and,and_true,↓evA,evB,evs,evp,mkB,repB,blen,↓retQ,res,resAll,resOne,kill,apartOk,exp,injV,injB,pur,purs,purR,pursR,List.reduceReplicate,Nat.reduceMul,Nat.reduceSub,Nat.reduceEqDiff,Int.reduceToNat,Int.reduceLE,Int.reduceLT,Int.reduceEq,reduceCtorEq,↓reduceIte]
    exact out_ints rfl
end Am
set_option maxRecDepth 20000
namespace Am
open Go.Proofs
/-! ### Words of 32 bits, reckoned with in 64 -/
def W32 (x:Int):Prop:=0≤x∧x<4294967296
theorem wrapN {k:Go.IntKind} {n:Nat} (hs:k.signed=false) (h:n<2^k.bits):k.wrap (n:Int)=(n:Int):=by
  simp only[Go.IntKind.wrap,hs,Bool.false_and]
  have:((n:Int))<2^k.bits:=by exact_mod_cast h
  simpa using Int.emod_eq_of_lt (by omega) this
theorem bvN (k n:Nat) (h:n<2^k):(BitVec.ofInt k (n:Int)).toNat=n:=by
  rw[toNat_ofInt _ _ (by omega) (by exact_mod_cast h)];simp
theorem bAndN {k:Go.IntKind} {a b:Nat} (hs:k.signed=false) (ha:a<2^k.bits) (hb:b<2^k.bits):bAnd k a b=((a &&& b:Nat):Int):=by
  rw[bAnd,BitVec.toNat_and,bvN _ _ ha,bvN _ _ hb,wrapN hs (Nat.lt_of_le_of_lt Nat.and_le_left ha)]
theorem bOrN {k:Go.IntKind} {a b:Nat} (hs:k.signed=false) (ha:a<2^k.bits) (hb:b<2^k.bits):bOr k a b=((a ||| b:Nat):Int):=by
  rw[bOr,BitVec.toNat_or,bvN _ _ ha,bvN _ _ hb,wrapN hs (Nat.or_lt_two_pow ha hb)]
theorem bXorN {k:Go.IntKind} {a b:Nat} (hs:k.signed=false) (ha:a<2^k.bits) (hb:b<2^k.bits):bXor k a b=((a ^^^ b:Nat):Int):=by
  rw[bXor,BitVec.toNat_xor,bvN _ _ ha,bvN _ _ hb,wrapN hs (Nat.xor_lt_two_pow ha hb)]
theorem nat32 {x:Int} (h:W32 x):∃n:Nat,x=n∧n<2^32:=⟨x.toNat,by have:=h.1;omega,by have:=h.2;have:=h.1;omega⟩
theorem lt64 {n:Nat} (h:n<2^32):n<2^64:=by omega
theorem xor_64 {a b:Int} (ja:W32 a) (jb:W32 b):bXor .u64 a b=bXor .u32 a b:=by
  obtain⟨a,rfl,ha⟩:=nat32 ja
  obtain⟨b,rfl,hb⟩:=nat32 jb
  rw[bXorN (k:=.u64) rfl (lt64 ha) (lt64 hb),bXorN (k:=.u32) rfl ha hb]
theorem xor_32 {a b:Int} (ja:W32 a) (jb:W32 b):W32 (bXor .u32 a b):=by
  obtain⟨a,rfl,ha⟩:=nat32 ja
  obtain⟨b,rfl,hb⟩:=nat32 jb
  rw[bXorN (k:=.u32) rfl ha hb]
  have:=Nat.xor_lt_two_pow ha hb
  exact⟨by omega,by omega⟩
theorem tb_lt {n i:Nat} (h:n<2^32) (hi:¬i<32):n.testBit i=false:=Nat.testBit_lt_two_pow (Nat.lt_of_lt_of_le h (Nat.pow_le_pow_right (by omega) (by omega)))
theorem ch_nat {e f g:Nat} (he:e<2^32) (hf:f<2^32) (hg:g<2^32):(e &&& f) ||| ((2^64-1 ^^^ e) &&& g)=(e &&& f) ^^^ ((2^32-1 ^^^ e) &&& g):=by
  apply Nat.eq_of_testBit_eq
  intro i
  simp only[Nat.testBit_or,Nat.testBit_and,Nat.testBit_xor,Nat.testBit_two_pow_sub_one]
  by_cases hi:i<32
  · have h64:i<64:=by omega
    simp only[hi,h64,decide_true]
    cases e.testBit i<;>cases f.testBit i<;>cases g.testBit i<;>rfl
  · rw[tb_lt hg hi,tb_lt he hi]
    simp
theorem maj_nat (a b c:Nat):(a &&& b) ||| (a &&& c) ||| (b &&& c)=(a &&& b) ^^^ (a &&& c) ^^^ (b &&& c):=by
  apply Nat.eq_of_testBit_eq
  intro i
  simp only[Nat.testBit_or,Nat.testBit_and,Nat.testBit_xor]
  cases a.testBit i<;>cases b.testBit i<;>cases c.testBit i<;>rfl
theorem ch_eq {e f g:Int} (je:W32 e) (jf:W32 f) (jg:W32 g):bOr .u64 (bAnd .u64 e f) (bAnd .u64 (bXor .u64 (if Go.IntKind.u64.signed then -1 else Go.IntKind.u64.max) e) g)=bXor .u32 (bAnd .u32 e f) (bAnd .u32 (bXor .u32 (if Go.IntKind.u32.signed then -1 else Go.IntKind.u32.max) e) g)∧W32 (bXor .u32 (bAnd .u32 e f) (bAnd .u32 (bXor .u32 (if Go.IntKind.u32.signed then -1 else Go.IntKind.u32.max) e) g)):=by
  obtain⟨e,rfl,he⟩:=nat32 je
  obtain⟨f,rfl,hf⟩:=nat32 jf
  obtain⟨g,rfl,hg⟩:=nat32 jg
  have m64:(if Go.IntKind.u64.signed then -1 else Go.IntKind.u64.max)=((2^64-1:Nat):Int):=by decide
  have m32:(if Go.IntKind.u32.signed then -1 else Go.IntKind.u32.max)=((2^32-1:Nat):Int):=by decide
  have l1:e &&& f<2^32:=Nat.lt_of_le_of_lt Nat.and_le_left he
  have l2:(2^64-1 ^^^ e)<2^64:=Nat.xor_lt_two_pow (by omega) (lt64 he)
  have l3:(2^32-1 ^^^ e)<2^32:=Nat.xor_lt_two_pow (by omega) he
  have l4:(2^64-1 ^^^ e) &&& g<2^32:=Nat.lt_of_le_of_lt Nat.and_le_right hg
  have l5:(2^32-1 ^^^ e) &&& g<2^32:=Nat.lt_of_le_of_lt Nat.and_le_right hg
  rw[m64,m32,bAndN (k:=.u64) rfl (lt64 he) (lt64 hf),bAndN (k:=.u32) rfl he hf,bXorN (k:=.u64) rfl (by decide) (lt64 he),bXorN (k:=.u32) rfl (by decide) he,bAndN (k:=.u64) rfl l2 (lt64 hg),bAndN (k:=.u32) rfl l3 hg,bOrN (k:=.u64) rfl (lt64 l1) (lt64 l4),bXorN (k:=.u32) rfl l1 l5,ch_nat he hf hg]
  have:=Nat.xor_lt_two_pow l1 l5
  exact⟨rfl,by omega,by omega⟩
theorem maj_eq {a b c:Int} (ja:W32 a) (jb:W32 b) (jc:W32 c):bOr .u64 (bOr .u64 (bAnd .u64 a b) (bAnd .u64 a c)) (bAnd .u64 b c)=bXor .u32 (bXor .u32 (bAnd .u32 a b) (bAnd .u32 a c)) (bAnd .u32 b c)∧W32 (bXor .u32 (bXor .u32 (bAnd .u32 a b) (bAnd .u32 a c)) (bAnd .u32 b c)):=by
  obtain⟨a,rfl,ha⟩:=nat32 ja
  obtain⟨b,rfl,hb⟩:=nat32 jb
  obtain⟨c,rfl,hc⟩:=nat32 jc
  have l1:a &&& b<2^32:=Nat.lt_of_le_of_lt Nat.and_le_left ha
  have l2:a &&& c<2^32:=Nat.lt_of_le_of_lt Nat.and_le_left ha
  have l3:b &&& c<2^32:=Nat.lt_of_le_of_lt Nat.and_le_left hb
  have l4:=Nat.or_lt_two_pow l1 l2
  have l5:=Nat.xor_lt_two_pow l1 l2
  rw[bAndN (k:=.u64) rfl (lt64 ha) (lt64 hb),bAndN (k:=.u64) rfl (lt64 ha) (lt64 hc),bAndN (k:=.u64) rfl (lt64 hb) (lt64 hc),bAndN (k:=.u32) rfl ha hb,bAndN (k:=.u32) rfl ha hc,bAndN (k:=.u32) rfl hb hc,bOrN (k:=.u64) rfl (lt64 l1) (lt64 l2),bOrN (k:=.u64) rfl (lt64 l4) (lt64 l3),bXorN (k:=.u32) rfl l1 l2,bXorN (k:=.u32) rfl l5 l3,maj_nat]
  have:=Nat.xor_lt_two_pow l5 l3
  exact⟨rfl,by omega,by omega⟩
theorem cut_eq {x:Int} (h0:0≤x) (h1:x<18446744073709551616):bAnd .u64 x 4294967295=x%4294967296:=by
  have:=bAnd_mask .u64 32 x h0 (by simpa[Go.IntKind.bits]using h1) (by decide) rfl
  simpa using this
/-- A word turned to the right. -/
def tr (x:Int) (n:Nat):Int:=x/2^n+x*2^(32-n)%4294967296
theorem tr_split {x:Int} {n:Nat} (hx:W32 x) (h0:0<n) (h1:n<32):∃q r:Int,x=q*2^n+r∧0≤r∧r<2^n∧0≤q∧q<2^(32-n)∧(2:Int)^n*2^(32-n)=4294967296∧x/2^n=q∧x*2^(32-n)%4294967296=r*2^(32-n):=by
  have hp:(2:Int)^n*2^(32-n)=4294967296:=by rw[←Int.pow_add,show n+(32-n)=32 by omega];rfl
  have p1:(0:Int)<2^n:=Int.pow_pos (by decide)
  have p2:(0:Int)<2^(32-n):=Int.pow_pos (by decide)
  have hq:x/2^n<2^(32-n):=by
    rw[Int.ediv_lt_iff_lt_mul p1,Int.mul_comm,hp];exact hx.2
  refine⟨x/2^n,x%2^n,?_,Int.emod_nonneg _ (by omega),Int.emod_lt_of_pos _ p1,Int.ediv_nonneg hx.1 (by omega),hq,hp,rfl,?_⟩
  · rw[Int.mul_comm];exact(Int.mul_ediv_add_emod x (2^n)).symm
  · rw[←hp,Int.mul_comm x,Int.mul_comm (2^n),Int.mul_emod_mul_of_pos _ _ p2,Int.mul_comm]
theorem tr_32 {x:Int} {n:Nat} (hx:W32 x) (h0:0<n) (h1:n<32):W32 (tr x n):=by
  obtain⟨q,r,h2,h3,h4,h5,h6,hp,hq,hr⟩:=tr_split hx h0 h1
  rw[tr,hq,hr]
  have p2:(0:Int)<2^(32-n):=Int.pow_pos (by decide)
  have h7:r*2^(32-n)+2^(32-n)≤4294967296:=by
    have:=Int.mul_le_mul_of_nonneg_right (show r+1≤2^n by omega) (Int.le_of_lt p2)
    rw[hp,Int.add_mul,Int.one_mul]at this
    exact this
  have h8:0≤r*2^(32-n):=Int.mul_nonneg h3 (by omega)
  exact⟨by omega,by omega⟩
theorem r32_eq {x:Int} {n:Nat} (hx:W32 x) (h0:0<n) (h1:n<32):r32 x (-(n:Int))=tr x n:=by
  obtain⟨q,r,h2,h3,h4,h5,h6,hp,hq,hr⟩:=tr_split hx h0 h1
  have p2:(0:Int)<2^(32-n):=Int.pow_pos (by decide)
  have e1:bAnd .u64 (Go.IntKind.u64.wrap (-(n:Int))) 31=((32-n:Nat):Int):=by
    have:=bAnd_mask .u64 5 (Go.IntKind.u64.wrap (-(n:Int))) (by rw[wrap_u64];omega) (by rw[wrap_u64];simp only[Go.IntKind.bits];omega) (by decide) rfl
    rw[show (2:Int)^5-1=31 by decide]at this
    rw[this,wrap_u64,show (2:Int)^5=32 by decide]
    omega
  have e2:Go.IntKind.u64.wrap (32-((32-n:Nat):Int))=(n:Int):=by rw[wrap_u64];omega
  have e3:iShl .u32 x ((32-n:Nat):Int)=r*2^(32-n):=by
    rw[iShl,Int.toNat_natCast,Nat.min_eq_left (by simp only[Go.IntKind.bits];omega),wrap_u32,hr]
  have e4:iShr .u32 x (n:Int)=q:=by
    rw[iShr_eq,Int.toNat_natCast,Nat.min_eq_left (by simp only[Go.IntKind.bits];omega),hq]
  show bOr .u32 (iShl .u32 x (bAnd .u64 (Go.IntKind.u64.wrap (-(n:Int))) 31)) (iShr .u32 x (Go.IntKind.u64.wrap (32-bAnd .u64 (Go.IntKind.u64.wrap (-(n:Int))) 31)))=_
  have h7:r*2^(32-n)+2^(32-n)≤4294967296:=by
    have:=Int.mul_le_mul_of_nonneg_right (show r+1≤2^n by omega) (Int.le_of_lt p2)
    rw[hp,Int.add_mul,Int.one_mul]at this
    exact this
  have h8:0≤r*2^(32-n):=Int.mul_nonneg h3 (by omega)
  rw[e1,e2,e3,e4,bOr_add .u32 (32-n) _ _ h8 (by simp only[Go.IntKind.bits];omega) (Int.mul_emod_left _ _) h5 h6 (by simp only[Go.IntKind.bits];omega) rfl,tr,hq,hr,Int.add_comm]
theorem turn_eq {x:Int} {n:Nat} (hx:W32 x) (h0:0<n) (h1:n<32):bAnd .u64 (bOr .u64 (iShr .u64 x (n:Int)) (iShl .u64 x (Go.IntKind.i64.wrap (32-(n:Int))))) 4294967295=tr x n:=by
  obtain⟨q,r,h2,h3,h4,h5,h6,hp,hq,hr⟩:=tr_split hx h0 h1
  have p2:(0:Int)<2^(32-n):=Int.pow_pos (by decide)
  have p1:(0:Int)<2^n:=Int.pow_pos (by decide)
  have e1:Go.IntKind.i64.wrap (32-(n:Int))=((32-n:Nat):Int):=by rw[wrap_i64];omega
  have hb:(2:Int)^(32-n)≤4294967296:=by
    rw[←hp]
    have:=Int.mul_le_mul_of_nonneg_right (show (1:Int)≤2^n by omega) (Int.le_of_lt p2)
    omega
  have hxs:x*2^(32-n)<18446744073709551616:=by
    have h7:x*2^(32-n)≤x*4294967296:=Int.mul_le_mul_of_nonneg_left hb hx.1
    have:=hx.2
    omega
  have hx0:0≤x*2^(32-n):=Int.mul_nonneg hx.1 (by omega)
  have e3:iShl .u64 x ((32-n:Nat):Int)=x*2^(32-n):=by
    rw[iShl,Int.toNat_natCast,Nat.min_eq_left (by simp only[Go.IntKind.bits];omega),wrap_u64,Int.emod_eq_of_lt hx0 hxs]
  have e4:iShr .u64 x (n:Int)=q:=by
    rw[iShr_eq,Int.toNat_natCast,Nat.min_eq_left (by simp only[Go.IntKind.bits];omega),hq]
  have hq32:q<4294967296:=by omega
  have e5:bOr .u64 q (x*2^(32-n))=x*2^(32-n)+q:=by
    have hc:bOr .u64 q (x*2^(32-n))=bOr .u64 (x*2^(32-n)) q:=by unfold bOr;rw[BitVec.or_comm]
    rw[hc]
    exact bOr_add .u64 (32-n) _ _ hx0 (by simp only[Go.IntKind.bits];omega) (Int.mul_emod_left _ _) h5 h6 (by simp only[Go.IntKind.bits];omega) rfl
  have h7:r*2^(32-n)+2^(32-n)≤4294967296:=by
    have:=Int.mul_le_mul_of_nonneg_right (show r+1≤2^n by omega) (Int.le_of_lt p2)
    rw[hp,Int.add_mul,Int.one_mul]at this
    exact this
  have hm:(x*2^(32-n)+q)%4294967296=q+r*2^(32-n):=by
    have h8:0≤r*2^(32-n):=Int.mul_nonneg h3 (by omega)
    omega
  have hub:x*2^(32-n)+q<18446744073709551616:=by
    have h9:x*2^(32-n)≤4294967295*2^(32-n):=Int.mul_le_mul_of_nonneg_right (by have:=hx.2;omega) (by omega)
    omega
  rw[e1,e3,e4,e5,cut_eq (by omega) hub,hm,tr,hq,hr]
end Am
set_option maxRecDepth 20000
namespace Am
open Go.Proofs
/-! ### The reference's rounds, as its code has them -/
def cutr (x:Int):Int:=bAnd .u64 x 4294967295
def trn (x n:Int):Int:=cutr (bOr .u64 (iShr .u64 x n) (iShl .u64 x (Go.IntKind.i64.wrap (32-n))))
def rB (p:List Int) (o:Nat) (w:List Int) (i:Nat):List Int:=w.set (i/4) (bOr .u64 (iShl .u64 (getI w (i/4)) 8) (Go.IntKind.u64.wrap (getI p (o+i))))
def rS (a b c:Int) (x:Int):Int:=bXor .u64 (bXor .u64 (trn x a) (trn x b)) (iShr .u64 x c)
def r3 (a b c:Int) (x:Int):Int:=bXor .u64 (bXor .u64 (trn x a) (trn x b)) (trn x c)
def rWv (w:List Int) (i:Nat):Int:=cutr (Go.IntKind.u64.wrap (Go.IntKind.u64.wrap (Go.IntKind.u64.wrap (getI w (i-16)+rS 7 18 3 (getI w (i-15)))+getI w (i-7))+rS 17 19 10 (getI w (i-2))))
def rt (K:Int) (w v:List Int) (i:Nat):Int:=Go.IntKind.u64.wrap (Go.IntKind.u64.wrap (Go.IntKind.u64.wrap (Go.IntKind.u64.wrap (getI v 7+r3 6 11 25 (getI v 4))+bOr .u64 (bAnd .u64 (getI v 4) (getI v 5)) (bAnd .u64 (bXor .u64 (if Go.IntKind.u64.signed then -1 else Go.IntKind.u64.max) (getI v 4)) (getI v 6)))+K)+getI w i)
def ru (v:List Int):Int:=Go.IntKind.u64.wrap (r3 2 13 22 (getI v 0)+bOr .u64 (bOr .u64 (bAnd .u64 (getI v 0) (getI v 1)) (bAnd .u64 (getI v 0) (getI v 2))) (bAnd .u64 (getI v 1) (getI v 2)))
def rR (K:Int) (w v:List Int) (i:Nat):List Int:=[cutr (Go.IntKind.u64.wrap (rt K w v i+ru v)),getI v 0,getI v 1,getI v 2,cutr (Go.IntKind.u64.wrap (getI v 3+rt K w v i)),getI v 4,getI v 5,getI v 6]
theorem trn_eq {x:Int} (n:Nat) (hx:W32 x) (h0:0<n) (h1:n<32):trn x (n:Int)=tr x n:=turn_eq hx h0 h1
theorem rS_eq {x:Int} (a b c:Nat) (hx:W32 x) (ha:0<a∧a<32) (hb:0<b∧b<32) (hc:c<32):rS a b c x=sg (-(a:Int)) (-(b:Int)) c x∧W32 (sg (-(a:Int)) (-(b:Int)) c x):=by
  have e1:iShr .u64 x (c:Int)=iShr .u32 x (c:Int):=by
    rw[iShr_eq,iShr_eq,Int.toNat_natCast,Nat.min_eq_left (by simp only[Go.IntKind.bits];omega),Nat.min_eq_left (by simp only[Go.IntKind.bits];omega)]
  have h3:W32 (iShr .u32 x (c:Int)):=by
    rw[iShr_eq]
    have hp:(0:Int)<2^min (c:Int).toNat Go.IntKind.u32.bits:=Int.pow_pos (by decide)
    exact⟨Int.ediv_nonneg hx.1 (by omega),Int.lt_of_le_of_lt (Int.ediv_le_self _ hx.1) hx.2⟩
  have h1:=tr_32 hx ha.1 ha.2
  have h2:=tr_32 hx hb.1 hb.2
  have h4:=xor_32 h1 h2
  unfold rS sg
  rw[trn_eq a hx ha.1 ha.2,trn_eq b hx hb.1 hb.2,r32_eq hx ha.1 ha.2,r32_eq hx hb.1 hb.2,e1,xor_64 h1 h2,xor_64 h4 h3]
  exact⟨rfl,xor_32 h4 h3⟩
theorem r3_eq {x:Int} (a b c:Nat) (hx:W32 x) (ha:0<a∧a<32) (hb:0<b∧b<32) (hc:0<c∧c<32):r3 a b c x=s3 (-(a:Int)) (-(b:Int)) (-(c:Int)) x∧W32 (s3 (-(a:Int)) (-(b:Int)) (-(c:Int)) x):=by
  have h1:=tr_32 hx ha.1 ha.2
  have h2:=tr_32 hx hb.1 hb.2
  have h3:=tr_32 hx hc.1 hc.2
  have h4:=xor_32 h1 h2
  unfold r3 s3
  rw[trn_eq a hx ha.1 ha.2,trn_eq b hx hb.1 hb.2,trn_eq c hx hc.1 hc.2,r32_eq hx ha.1 ha.2,r32_eq hx hb.1 hb.2,r32_eq hx hc.1 hc.2,xor_64 h1 h2,xor_64 h4 h3]
  exact⟨rfl,xor_32 h4 h3⟩
def D32 (l:List Int):Prop:=∀i,W32 (getI l i)
theorem D32.set {l:List Int} (h:D32 l) (i:Nat) {v:Int} (hv:W32 v):D32 (l.set i v):=by
  intro j
  by_cases hl:i<l.length
  · rw[getI_set _ _ _ _ hl]
    split
    · exact hv
    · exact h j
  · rw[List.set_eq_of_length_le (by omega)]
    exact h j
theorem w32_wrap (x:Int):W32 (Go.IntKind.u32.wrap x):=by rw[wrap_u32];exact⟨by omega,by omega⟩
theorem rWv_eq {w:List Int} (hw:D32 w) (i:Nat):rWv w i=whi w i:=by
  have a0:=hw (i-16)
  have a1:=hw (i-7)
  have s1:=rS_eq 7 18 3 (hw (i-15)) (by decide) (by decide) (by decide)
  have s2:=rS_eq 17 19 10 (hw (i-2)) (by decide) (by decide) (by decide)
  simp only[Int.cast_ofNat_Int]at s1 s2
  unfold rWv whi
  rw[s1.1,s2.1]
  have b1:=s1.2
  have b2:=s2.2
  generalize sg (-7) (-18) 3 (getI w (i-15))=x at *
  generalize sg (-17) (-19) 10 (getI w (i-2))=y at *
  generalize getI w (i-16)=z at *
  generalize getI w (i-7)=u at *
  unfold W32 at *
  rw[cutr,cut_eq (by rw[wrap_u64];omega) (by rw[wrap_u64];omega)]
  simp only[wrap_u64,wrap_u32]
  omega
theorem rR_eq {w v:List Int} {K:Int} {i:Nat} (hv:D32 v) (hw:D32 w) (hK:W32 K) (hk:K=iShr .u64 (getI roots i) 32):rR K w v i=R256 w v i:=by
  have c:=ch_eq (hv 4) (hv 5) (hv 6)
  have m:=maj_eq (hv 0) (hv 1) (hv 2)
  have s1:=r3_eq 6 11 25 (hv 4) (by decide) (by decide) (by decide)
  have s2:=r3_eq 2 13 22 (hv 0) (by decide) (by decide) (by decide)
  simp only[Int.cast_ofNat_Int]at s1 s2
  have a7:=hv 7
  have a3:=hv 3
  have aw:=hw i
  unfold rR R256 rt ru t256 u256
  rw[c.1,m.1,s1.1,s2.1,←hk]
  have b1:=s1.2
  have b2:=s2.2
  have b3:=c.2
  have b4:=m.2
  generalize s3 (-6) (-11) (-25) (getI v 4)=x at *
  generalize s3 (-2) (-13) (-22) (getI v 0)=y at *
  generalize bXor .u32 (bAnd .u32 (getI v 4) (getI v 5)) (bAnd .u32 (bXor .u32 (if Go.IntKind.u32.signed then -1 else Go.IntKind.u32.max) (getI v 4)) (getI v 6))=z at *
  generalize bXor .u32 (bXor .u32 (bAnd .u32 (getI v 0) (getI v 1)) (bAnd .u32 (getI v 0) (getI v 2))) (bAnd .u32 (getI v 1) (getI v 2))=u at *
  generalize getI v 7=v7 at *
  generalize getI v 3=v3 at *
  generalize getI w i=wi at *
  unfold W32 at *
  have e1:∀q:Int,cutr (Go.IntKind.u64.wrap q)=Go.IntKind.u64.wrap q%4294967296:=fun q=>by rw[cutr,cut_eq (by rw[wrap_u64];omega) (by rw[wrap_u64];omega)]
  rw[e1,e1]
  simp only[wrap_u64,wrap_u32]
  congr 1
  · omega
  · congr 4
    · omega
theorem rH_eq {v h:List Int} {i:Nat} (hv:D32 v) (hh:D32 h):cutr (Go.IntKind.u64.wrap (getI h i+getI v i))=Go.IntKind.u32.wrap (getI h i+getI v i):=by
  have a:=hv i
  have b:=hh i
  unfold W32 at *
  rw[cutr,cut_eq (by rw[wrap_u64];omega) (by rw[wrap_u64];omega)]
  simp only[wrap_u64,wrap_u32]
  omega
theorem D32_rep (n:Nat):D32 (List.replicate n 0):=fun i=>by rw[getI_replicate0];exact⟨by decide,by decide⟩
theorem D32_R {w v:List Int} (hv:D32 v) (i:Nat):D32 (R256 w v i):=by
  intro j
  unfold R256
  rcases j with _ | _ | _ | _ | _ | _ | _ | _ | j
  · exact w32_wrap _
  · exact hv 0
  · exact hv 1
  · exact hv 2
  · exact w32_wrap _
  · exact hv 4
  · exact hv 5
  · exact hv 6
  · rw[getI_of_le (by simp)];exact⟨by decide,by decide⟩
theorem D32_itR {w v:List Int} (hv:D32 v):∀n,D32 (it (R256 w) v n)
  | 0=>hv
  | n+1=>by rw[it];exact D32_R (D32_itR hv n) n
theorem D32_itH {v h:List Int} (hh:D32 h):∀n,D32 (it (H256 v) h n)
  | 0=>hh
  | n+1=>by rw[it,H256];exact(D32_itH hh n).set _ (w32_wrap _)
theorem D32_init:D32 init256:=by
  intro j
  by_cases h:j<8
  · rcases (by omega:j=0∨j=1∨j=2∨j=3∨j=4∨j=5∨j=6∨j=7)with rfl | rfl | rfl | rfl | rfl | rfl | rfl | rfl<;>exact⟨by decide,by decide⟩
  · rw[getI_of_le (by simp[init256];omega)];exact⟨by decide,by decide⟩
theorem D32_blocks {p h:List Int} (hh:D32 h):∀n,D32 (it (block256 p) h n)
  | 0=>hh
  | n+1=>by rw[it];unfold block256;exact D32_itH (D32_blocks hh n) 8
/-! ### A block's words -/
theorem wlo_sum {p:List Int} (hp:Dig 256 p) (j:Nat):wlo p j=getI p j*16777216+getI p (j+1)*65536+getI p (j+2)*256+getI p (j+3):=by
  have a:=hp.all (by decide) j
  have b:=hp.all (by decide) (j+1)
  have c:=hp.all (by decide) (j+2)
  have d:=hp.all (by decide) (j+3)
  unfold wlo
  generalize getI p j=x at *
  generalize getI p (j+1)=y at *
  generalize getI p (j+2)=z at *
  generalize getI p (j+3)=u at *
  have e1:iShl .u32 (Go.IntKind.u32.wrap x) 24=x*16777216:=by simp only[iShl,wrap_u8,wrap_u16,wrap_u32,wrap_u64,iShr_eq,Go.IntKind.bits,Int.reduceToNat,Int.toNat_natCast,Nat.min_def,Nat.reduceLeDiff,reduceIte,Int.reducePow];omega
  have e2:iShl .u32 (Go.IntKind.u32.wrap y) 16=y*65536:=by simp only[iShl,wrap_u8,wrap_u16,wrap_u32,wrap_u64,iShr_eq,Go.IntKind.bits,Int.reduceToNat,Int.toNat_natCast,Nat.min_def,Nat.reduceLeDiff,reduceIte,Int.reducePow];omega
  have e3:iShl .u32 (Go.IntKind.u32.wrap z) 8=z*256:=by simp only[iShl,wrap_u8,wrap_u16,wrap_u32,wrap_u64,iShr_eq,Go.IntKind.bits,Int.reduceToNat,Int.toNat_natCast,Nat.min_def,Nat.reduceLeDiff,reduceIte,Int.reducePow];omega
  have e4:Go.IntKind.u32.wrap u=u:=by rw[wrap_u32];omega
  rw[e1,e2,e3,e4,bOr_add .u32 24 (x*16777216) (y*65536) (by omega) (by simp only[Go.IntKind.bits];omega) (by omega) (by omega) (by omega) (by decide) rfl,
    bOr_add .u32 16 (x*16777216+y*65536) (z*256) (by omega) (by simp only[Go.IntKind.bits];omega) (by omega) (by omega) (by omega) (by decide) rfl,
    bOr_add .u32 8 (x*16777216+y*65536+z*256) u (by omega) (by simp only[Go.IntKind.bits];omega) (by omega) (by omega) (by omega) (by decide) rfl]
theorem wlo_32 {p:List Int} (hp:Dig 256 p) (j:Nat):W32 (wlo p j):=by
  have a:=hp.all (by decide) j
  have b:=hp.all (by decide) (j+1)
  have c:=hp.all (by decide) (j+2)
  have d:=hp.all (by decide) (j+3)
  rw[wlo_sum hp]
  exact⟨by omega,by omega⟩
theorem D32_itW {p:List Int} (hp:Dig 256 p) (o:Nat) {w:List Int} (hw:D32 w):∀n,D32 (it (W256 p o) w n)
  | 0=>hw
  | n+1=>by
    rw[it,W256]
    refine (D32_itW hp o hw n).set _ ?_
    split
    · exact wlo_32 hp _
    · exact w32_wrap _
theorem itW_zero {p:List Int} {o:Nat}:∀(n j:Nat),n≤j→getI (it (W256 p o) z64 n) j=0
  | 0,j,_=>getI_replicate0 64 j
  | n+1,j,h=>by
    rw[it,W256]
    by_cases hl:n<(it (W256 p o) z64 n).length
    · rw[getI_set _ _ _ _ hl,if_neg (by omega)]
      exact itW_zero n j (by omega)
    · rw[List.set_eq_of_length_le (by omega)]
      exact itW_zero n j (by omega)
theorem shl8 {x y:Int} (hx:0≤x∧x<16777216) (hy:0≤y∧y<256):bOr .u64 (iShl .u64 x 8) (Go.IntKind.u64.wrap y)=x*256+y:=by
  have e1:iShl .u64 x 8=x*256:=by simp only[iShl,wrap_u8,wrap_u16,wrap_u32,wrap_u64,iShr_eq,Go.IntKind.bits,Int.reduceToNat,Int.toNat_natCast,Nat.min_def,Nat.reduceLeDiff,reduceIte,Int.reducePow];omega
  rw[e1,wu64 hy.1 (by omega),bOr_add .u64 8 _ _ (by omega) (by simp only[Go.IntKind.bits];omega) (by omega) hy.1 hy.2 (by decide) rfl]
theorem rB_four {p:List Int} (hp:Dig 256 p) (o q:Nat) {w:List Int} (hw:getI w q=0) (hq:q<w.length) :
    rB p o (rB p o (rB p o (rB p o w (4*q)) (4*q+1)) (4*q+2)) (4*q+3)=w.set q (wlo p (o+4*q)):=by
  have a:=hp.all (by decide) (o+4*q)
  have b:=hp.all (by decide) (o+4*q+1)
  have c:=hp.all (by decide) (o+4*q+2)
  have d:=hp.all (by decide) (o+4*q+3)
  rw[wlo_sum hp]
  unfold rB
  rw[show 4*q/4=q by omega,show (4*q+1)/4=q by omega,show (4*q+2)/4=q by omega,show (4*q+3)/4=q by omega,hw]
  simp only[List.set_set,getI_set _ _ _ _ (show q<(w.set q _).length by simpa using hq),getI_set _ _ _ _ hq,if_true,←Nat.add_assoc]
  generalize getI p (o+4*q)=x at *
  generalize getI p (o+4*q+1)=y at *
  generalize getI p (o+4*q+2)=z at *
  generalize getI p (o+4*q+3)=u at *
  rw[shl8 (by omega) a,shl8 (by omega) b,shl8 (by omega) c,shl8 (by omega) d]
  congr 1
  omega
theorem rB_all {p:List Int} (hp:Dig 256 p) (o:Nat):∀q,q≤16→it (rB p o) z64 (4*q)=it (W256 p o) z64 q
  | 0,_=>rfl
  | q+1,h=>by
    have ih:=rB_all hp o q (by omega)
    show rB p o (rB p o (rB p o (rB p o (it (rB p o) z64 (4*q)) (4*q)) (4*q+1)) (4*q+2)) (4*q+3)=_
    rw[ih,rB_four hp o q (itW_zero q q (by omega)) (by rw[W256_len];show q<64;omega)]
    rw[it,W256,if_pos (by omega)]
theorem rB_len {p:List Int} {o:Nat} {w:List Int}:∀n,(it (rB p o) w n).length=w.length
  | 0=>rfl
  | n+1=>by rw[it,rB,List.length_set,rB_len n]
/-! ### Bytes behind -/
theorem O256_get {h:List Int}:∀n,n≤32→∀i,i<n→getI (it (O256 h) z32 n) i=Go.IntKind.u8.wrap (iShr .u32 (getI h (i/4)) ((24-i%4*8:Nat):Int))
  | 0,_,i,hi=>by omega
  | n+1,hn,i,hi=>by
    rw[it,O256,getI_set _ _ _ _ (by rw[O256_len];show n<32;omega)]
    split
    · rename_i e;rw[e]
    · exact O256_get n (by omega) i (by omega)
theorem O256_take {h:List Int} {i:Nat} (hi:i<32):(it (O256 h) z32 32).take (i+1)=(it (O256 h) z32 32).take i++[Go.IntKind.u8.wrap (iShr .u64 (getI h (i/4)) ((24-i%4*8:Nat):Int))]:=by
  have e:∀(x:Int) (n:Nat),n≤24→iShr .u64 x n=iShr .u32 x n:=fun x n hn=>by
    rw[iShr_eq,iShr_eq,Int.toNat_natCast,Nat.min_eq_left (by simp only[Go.IntKind.bits];omega),Nat.min_eq_left (by simp only[Go.IntKind.bits];omega)]
  rw[take_getI (by rw[O256_len];exact hi),O256_get 32 (by omega) i hi,e _ _ (by omega)]
def th:List Int:=(roots.take 64).map fun x=>iShr .u64 x 32
theorem th_len:th.length=64:=rfl
theorem th_get {i:Nat} (h:i<64):getI th i=iShr .u64 (getI roots i) 32:=by
  rw[th,getI_map (by simpa[roots]using h),getI_take h]
theorem th_take {i:Nat} (h:i<64):th.take (i+1)=th.take i++[iShr .u64 (getI roots i) 32]:=by
  rw[take_getI (by rw[th_len];exact h),th_get h]
theorem th_32 {i:Nat} (h:i<64):W32 (getI th i):=by
  have hr:Dig 18446744073709551616 roots:=(show ∀x∈roots,0≤x∧x<18446744073709551616 by decide +kernel)
  have:=hr.all (by decide) i
  rw[th_get h,iShr_eq]
  simp only[Int.reduceToNat,Go.IntKind.bits,Nat.min_def,Nat.reduceLeDiff,if_true,Int.reducePow]
  exact⟨by omega,by omega⟩
theorem hh_take:∀i,i<8→init256.take (i+1)=init256.take i++[iShr .u64 (getI seconds i) 32]:=by decide +kernel
end Am
