/-
Working texts: contracts of functions, and the numbers behind them.
-/
import Derived.Test.YtcefobjfkmfmiaaDoorGeB
import Derived.Test.YtcefobjfkmfmiaaDoorIrGb
import Derived.Test.YtcefobjfkmfmiaaDoorAmShape
import Derived.Test.YtcefobjfkmfmiaaDoorGdA
set_option linter.unusedSimpArgs false
set_option linter.unusedVariables false
set_option linter.unusedSectionVars false
set_option maxRecDepth 20000
namespace Am
open Go.Proofs
/-! ### Cases of packets -/
/-- A case's cells: its secret, and what follows. -/
def cs (s:List Int) (l:List V):List V:=s.map (V.int .u8)++l
theorem cs_len {s:List Int} (hs:s.length=32) (l:List V):(cs s l).length=32+l.length:=by simp[cs,hs]
theorem cs_nth {s:List Int} (hs:s.length=32) (l:List V) (i:Nat):nth (cs s l) (32+i)=nth l i:=by
  rw[nth_get,nth_get,cs,List.getElem?_append_right (by simp[hs]),List.length_map,hs,Nat.add_sub_cancel_left]
theorem cs_sub {s:List Int} (hs:s.length=32) (l:List V):sub (cs s l) 0 32=s.map (V.int .u8):=by
  simp[sub,cs,List.take_append,hs]
def vl:V→Nat
  | .rsl _ n _ _=>n
  | _=>0
def lngF:List D→Out
  | [.v (.agg c)]=>.one (.v (.bool (decide (50<vl (nth c 33))||decide (50<vl (nth c 34))||decide (120<vl (nth c 38)))))
  | _=>bad
def preLng (ds:List D):Prop:=∃(s to fr b:List Int) (sp pn ac:Int) (r:Bool),ds=[.v (.agg (cs s [.int .i64 sp,.rsl 1 to.length .u8 to,.rsl 1 fr.length .u8 fr,.int .u64 pn,.int .u64 ac,.bool r,.rsl 1 b.length .u8 b]))]∧s.length=32
def s31:Summ:=sData [.r] preLng lngF
set_option maxHeartbeats 2000000 in
theorem ok31 {g:List Blk} [Ge gl g]:SumOK Tryd.prog g 31 s31∧SumAbs s31:=by
  refine fsumA (l:=[]) mixed gl_plain rfl Tryd.func31 comp31 compR31 nt31 (by simp) fun ds ⟨s,to,fr,b,sp,pn,ac,r,hd,hs⟩ hA=>?_
  subst hd
  have hl:=cs_len hs [.int .i64 sp,.rsl 1 to.length .u8 to,.rsl 1 fr.length .u8 fr,.int .u64 pn,.int .u64 ac,.bool r,.rsl 1 b.length .u8 b]
  have h1:=cs_nth hs [.int .i64 sp,.rsl 1 to.length .u8 to,.rsl 1 fr.length .u8 fr,.int .u64 pn,.int .u64 ac,.bool r,.rsl 1 b.length .u8 b] 1
  have h2:=cs_nth hs [.int .i64 sp,.rsl 1 to.length .u8 to,.rsl 1 fr.length .u8 fr,.int .u64 pn,.int .u64 ac,.bool r,.rsl 1 b.length .u8 b] 2
  have h6:=cs_nth hs [.int .i64 sp,.rsl 1 to.length .u8 to,.rsl 1 fr.length .u8 fr,.int .u64 pn,.int .u64 ac,.bool r,.rsl 1 b.length .u8 b] 6
  obtain⟨C,hC⟩:∃C,cs s [.int .i64 sp,.rsl 1 to.length .u8 to,.rsl 1 fr.length .u8 fr,.int .u64 pn,.int .u64 ac,.bool r,.rsl 1 b.length .u8 b]=C:=⟨_,rfl⟩
  rw[hC]at hl h1 h2 h6 ⊢
  simp only[nth,Nat.reduceAdd,List.length_cons,List.length_nil]at hl h1 h2 h6
  have hF:lngF [.v (.agg C)]=.one (.v (.bool (decide (50<vl (nth C 33))||decide (50<vl (nth C 34))||decide (120<vl (nth C 38))))):=rfl
  rw[h1,h2,h6]at hF
  simp only[vl]at hF
  by_cases c1:50<to.length
  · have d1:(50:Int)<(to.length:Int):=by omega
    simp only[ir31,rs31,gl,hF,hl,h1,h2,h6,d1,sub_zero,qdb,qai,List.length_cons,List.length_nil,Nat.reduceAdd,Nat.le_refl,Nat.reduceLeDiff,Nat.reduceLT,true_and,and_true,↓evA,evB,evs,evp,mkB,repB,blen,↓retQ,res,resAll,resOne,kill,apartOk,exp,injV,injB,pur,purs,purR,pursR,List.reduceReplicate,Nat.reduceMul,Nat.reduceSub,Nat.reduceEqDiff,Int.reduceToNat,Int.reduceLE,Int.reduceLT,Int.reduceEq,reduceCtorEq,↓reduceIte]
    simp[out,outs,out1,pur,c1]
  have d1:¬(50:Int)<(to.length:Int):=by omega
  by_cases c2:50<fr.length
  · have d2:(50:Int)<(fr.length:Int):=by omega
    simp only[ir31,rs31,gl,hF,hl,h1,h2,h6,d1,d2,sub_zero,qdb,qai,List.length_cons,List.length_nil,Nat.reduceAdd,Nat.le_refl,Nat.reduceLeDiff,Nat.reduceLT,true_and,and_true,↓evA,evB,evs,evp,mkB,repB,blen,↓retQ,res,resAll,resOne,kill,apartOk,exp,injV,injB,pur,purs,purR,pursR,List.reduceReplicate,Nat.reduceMul,Nat.reduceSub,Nat.reduceEqDiff,Int.reduceToNat,Int.reduceLE,Int.reduceLT,Int.reduceEq,reduceCtorEq,↓reduceIte]
    simp[out,outs,out1,pur,c2]
  have d2:¬(50:Int)<(fr.length:Int):=by omega
  by_cases c3:120<b.length
  · have d3:(120:Int)<(b.length:Int):=by omega
    simp only[ir31,rs31,gl,hF,hl,h1,h2,h6,d1,d2,d3,sub_zero,qdb,qai,List.length_cons,List.length_nil,Nat.reduceAdd,Nat.le_refl,Nat.reduceLeDiff,Nat.reduceLT,true_and,and_true,↓evA,evB,evs,evp,mkB,repB,blen,↓retQ,res,resAll,resOne,kill,apartOk,exp,injV,injB,pur,purs,purR,pursR,List.reduceReplicate,Nat.reduceMul,Nat.reduceSub,Nat.reduceEqDiff,Int.reduceToNat,Int.reduceLE,Int.reduceLT,Int.reduceEq,reduceCtorEq,↓reduceIte]
    simp[out,outs,out1,pur,c3]
  have d3:¬(120:Int)<(b.length:Int):=by omega
  simp only[ir31,rs31,gl,hF,hl,h1,h2,h6,d1,d2,d3,sub_zero,qdb,qai,List.length_cons,List.length_nil,Nat.reduceAdd,Nat.le_refl,Nat.reduceLeDiff,Nat.reduceLT,true_and,and_true,↓evA,evB,evs,evp,mkB,repB,blen,↓retQ,res,resAll,resOne,kill,apartOk,exp,injV,injB,pur,purs,purR,pursR,List.reduceReplicate,Nat.reduceMul,Nat.reduceSub,Nat.reduceEqDiff,Int.reduceToNat,Int.reduceLE,Int.reduceLT,Int.reduceEq,reduceCtorEq,↓reduceIte]
  simp[out,outs,out1,pur,c1,c2,c3]
/-! A case's head, made right. -/
def p8 (x:List Int):List Int:=(x++List.replicate 8 0).take 8
theorem p8_len (x:List Int):(p8 x).length=8:=by simp[p8]
theorem p8_dig {x:List Int} (h:Dig 256 x):Dig 256 (p8 x):=(h.append fun x hx=>by rw[(List.mem_replicate.1 hx).2];decide).take 8
def vn:V→Int
  | .int _ n=>n
  | _=>0
def sp3 (n:Int):Nat:=(n%18446744073709551616%3).toNat
def pnR (n:Int):Nat:=n.toNat%4611686018427387904
def acR (n m:Int):Nat:=pnR n-min (pnR n) (m.toNat%70000)
end Am
set_option maxRecDepth 20000
namespace Am
open Go.Proofs
end Am
set_option maxRecDepth 20000
namespace Am
open Go.Proofs
/-! ### What is hidden twice is what it was -/
theorem getI_sv {l:List Int} {i j:Nat} {v:Int} (h:i<l.length):getI (l.set i v) j=if i=j then v else getI l j:=by
  rw[getI_set _ _ _ _ h]
  by_cases e:i=j
  · rw[if_pos e,if_pos e.symm]
  · rw[if_neg e,if_neg (fun h=>e h.symm)]
end Am
set_option maxRecDepth 20000
namespace Am
open Go.Proofs
/-! ### A sealed packet -/
def padF (n:Nat) (b:List Int):List Int:=if n+b.length<4 then b++List.replicate (4-n-b.length) 0 else b
/-- Where the number begins. -/
def atF (sp:Int):Nat:=if sp=2 then 9 else if sp=0 then 26 else 25
def hdN (sp:Int) (to fr:List Int) (pn n:Nat) (b:List Int):List Int:=hdB sp to fr n (n+((padF n b).length+16))++nmb (pn:Int) n n
def pktG (k:List Int) (sp:Int) (to fr:List Int) (pn n:Nat) (b:List Int):List Int :=
  hidF k (hdN sp to fr pn n b++sealF (sub k 0 16) (nonF k pn) (hdN sp to fr pn n b) (padF n b)) (atF sp) false
def pktB (sp:Int) (to fr:List Int) (pn ac:Nat):Bool:=decide (pn<4611686018427387904)&&decide (ac≤pn)&&hdOK sp to fr
def pktX (k:List Int) (sp:Int) (to fr:List Int) (pn ac:Nat) (b:List Int):List Int:=if pktB sp to fr pn ac then pktG k sp to fr pn (shortN (pn-ac)) b else []
def pktE (sp:Int) (to fr:List Int) (pn ac:Nat):Int:=if pktB sp to fr pn ac then 0 else 2
def preGS (ds:List D):Prop:=∃(k:List Int) (sp:Int) (T R:V) (pn ac:Nat) (b:List Int),ds=[.v (.ints .u8 k),.v (.agg [.int .i64 sp,T,R]),.v (.int .u64 (pn:Int)),.v (.int .u64 (ac:Int)),.s .u8 b] ∧
  K44 k∧Sl T∧Dig 256 (vxs T)∧Sl R∧Dig 256 (vxs R)∧Dig 256 b∧b.length≤200
def F33:List D→Out
  | [.v (.ints _ k),.v (.agg [.int _ sp,T,R]),.v (.int _ pn),.v (.int _ ac),.s _ b]=>.many [.s .u8 (pktX k sp (vxs T) (vxs R) pn.toNat ac.toNat b),.v (.int .i64 (pktE sp (vxs T) (vxs R) pn.toNat ac.toNat))]
  | _=>bad
def s33:Summ:=sData [.v,.r,.v,.v,.s .u8] preGS F33
theorem shortN_le (d:Nat):1≤shortN d∧shortN d≤4:=by 
  unfold shortN
  split
  · omega
  split
  · omega
  split<;>omega
theorem hdOK_iff {sp:Int} {to fr:List Int}:hdOK sp to fr=true↔to.length=8∧0≤sp∧sp<3∧(sp=2∨fr.length=8):=by
  simp[hdOK,and_assoc]
theorem hdB_len {sp:Int} {to fr:List Int} (h:hdOK sp to fr=true) (n m:Nat):(hdB sp to fr n m).length=atF sp:=by
  obtain⟨h1,h2,h3,h4⟩:=hdOK_iff.1 h
  unfold hdB atF
  by_cases e2:sp=2
  · rw[if_pos e2,if_pos e2];simp[h1]
  · rw[if_neg e2,if_neg e2]
    have h5:=h4.resolve_left e2
    by_cases e0:sp=0
    · rw[if_pos e0,if_pos e0];simp[hdL,hdZ,h1,h5]
    · rw[if_neg e0,if_neg e0];simp[hdL,hdZ,h1,h5]
theorem fb_bt (n:Nat):Bt (fb n):=by unfold fb bOr;exact w8_bd _
theorem fbl_bt (sp:Int) (n:Nat):Bt (fbl sp n):=by unfold fbl bOr;exact w8_bd _
theorem hdB_dig {sp:Int} {to fr:List Int} (ht:Dig 256 to) (hf:Dig 256 fr) (n m:Nat):Dig 256 (hdB sp to fr n m):=by
  have hL:Dig 256 (hdL sp to fr n):=by
    intro x hx
    simp only[hdL,List.cons_append,List.mem_cons,List.mem_append]at hx
    rcases hx with rfl | rfl | rfl | rfl | rfl | rfl | hx | rfl | hx
    · exact fbl_bt sp n
    · decide
    · decide
    · decide
    · decide
    · decide
    · exact ht x hx
    · decide
    · exact hf x hx
  have hZ:Dig 256 (hdZ m):=by
    intro x hx
    simp only[hdZ,List.mem_cons,List.not_mem_nil,or_false]at hx
    rcases hx with rfl | rfl
    · unfold bOr;exact w8_bd _
    · exact w8_bd _
  unfold hdB
  split
  · intro x hx
    rcases List.mem_cons.1 hx with rfl | hx
    · exact fb_bt n
    · exact ht x hx
  split
  · exact(hL.append fun x hx=>by rw[List.mem_singleton.1 hx];decide).append hZ
  · exact hL.append hZ
theorem padF_ok {n:Nat} {b:List Int} (hb:Dig 256 b) (h:1≤n):Dig 256 (padF n b)∧4≤n+(padF n b).length∧(padF n b).length≤b.length+3:=by
  unfold padF
  split
  · exact⟨hb.append fun x hx=>by rw[(List.mem_replicate.1 hx).2];decide,by simp;omega,by simp;omega⟩
  · exact⟨hb,by omega,by omega⟩
theorem atF_le (sp:Int):9≤atF sp∧atF sp≤26:=by
  unfold atF
  split
  · omega
  split<;>omega
set_option maxHeartbeats 8000000 in
theorem ok33 {g:List Blk} [Ge gl g]:SumOK Tryd.prog g 33 s33∧SumAbs s33:=by
  refine fsumA (l:=[(47,s47),(48,s48),(50,s50),(49,s49),(51,s51)]) mixed gl_plain rfl Tryd.func33 comp33 compR33 nt33 (by simp only[List.mem_cons,List.not_mem_nil,or_false,forall_eq_or_imp,forall_eq];exact⟨ok47,ok48,ok50,ok49,ok51⟩) fun ds ⟨k,sp,T,R,pn,ac,b,hd,hk,hT,htd,hR,hrd,hb,hbl⟩ hA=>?_
  subst hd
  have hkl:=hk.1
  have hF:F33 [.v (.ints .u8 k),.v (.agg [.int .i64 sp,T,R]),.v (.int .u64 (pn:Int)),.v (.int .u64 (ac:Int)),.s .u8 b]=.many [.s .u8 (pktX k sp (vxs T) (vxs R) pn ac b),.v (.int .i64 (pktE sp (vxs T) (vxs R) pn ac))]:=rfl
  have hpT:=hT.pur
  have hgT:=hT.gc
  have hpR:=hR.pur
  have hgR:=hR.gc
  have hag:agI [V.int .i64 sp,T,R]=.agg [V.int .i64 sp,T,R]:=by
    rcases hT with h | h<;>rcases hR with h' | h'<;>rw[h,h']<;>rfl
  have hpr3:pursR [V.int .i64 sp,T,R]=true:=by simp[pursR,purR,hpT,hpR]
  have hs3:sub [V.int .i64 sp,T,R] 0 3=[V.int .i64 sp,T,R]:=rfl
  have bad:∀h:pktB sp (vxs T) (vxs R) pn ac=false,F33 [.v (.ints .u8 k),.v (.agg [.int .i64 sp,T,R]),.v (.int .u64 (pn:Int)),.v (.int .u64 (ac:Int)),.s .u8 b]=.many [.s .u8 [],.v (.int .i64 2)]:=fun h=>by
    rw[hF,pktX,pktE,h];rfl
  have good:∀h:pktB sp (vxs T) (vxs R) pn ac=true,F33 [.v (.ints .u8 k),.v (.agg [.int .i64 sp,T,R]),.v (.int .u64 (pn:Int)),.v (.int .u64 (ac:Int)),.s .u8 b]=.many [.s .u8 (pktG k sp (vxs T) (vxs R) pn (shortN (pn-ac)) b),.v (.int .i64 0)]:=fun h=>by
    rw[hF,pktX,pktE,h];rfl
  clear hF
  simp only[s51,s47,s48,s50,s49]
  by_cases hpn:pn<4611686018427387904
  case neg =>
    have hF:=bad (by simp[pktB,hpn])
    have c1:(4611686018427387903:Int)<(pn:Int):=by omega
    simp only[ir33,rs33,gl,hF,c1,sub_zero,qdb,qai,List.length_cons,List.length_nil,Nat.reduceAdd,Nat.le_refl,Nat.reduceLeDiff,Nat.reduceLT,true_and,and_true,↓qar,↓qan,↓qao,↓qap,↓qam,↓qaj,↓qak,↓qaq,↓qal,idsEs,idsE,idss,killB,effE,stA,wBlk,deads,nwA,cntA,cnts,cnt,valO,blkO,inj,injs,blk,blks,outA,outR,outE,outEs,sids,List.nodup_cons,List.nodup_nil,List.not_mem_nil,List.mem_cons,or_false,false_or,not_or,↓evA,evB,evs,evp,mkB,repB,blen,↓retQ,res,resAll,resOne,kill,apartOk,exp,injV,injB,pur,purs,purR,pursR,List.reduceReplicate,Nat.reduceMul,Nat.reduceSub,Nat.reduceEqDiff,Int.reduceToNat,Int.reduceLE,Int.reduceLT,Int.reduceEq,reduceCtorEq,↓reduceIte]
    simp[out,outs,out1,pur]
  have c1:¬(4611686018427387903:Int)<(pn:Int):=by omega
  by_cases hac:ac≤pn
  case neg =>
    have hF:=bad (by simp[pktB,hac])
    have c2:(pn:Int)<(ac:Int):=by omega
    simp only[ir33,rs33,gl,hF,c1,c2,sub_zero,qdb,qai,List.length_cons,List.length_nil,Nat.reduceAdd,Nat.le_refl,Nat.reduceLeDiff,Nat.reduceLT,true_and,and_true,↓qar,↓qan,↓qao,↓qap,↓qam,↓qaj,↓qak,↓qaq,↓qal,idsEs,idsE,idss,killB,effE,stA,wBlk,deads,nwA,cntA,cnts,cnt,valO,blkO,inj,injs,blk,blks,outA,outR,outE,outEs,sids,List.nodup_cons,List.nodup_nil,List.not_mem_nil,List.mem_cons,or_false,false_or,not_or,↓evA,evB,evs,evp,mkB,repB,blen,↓retQ,res,resAll,resOne,kill,apartOk,exp,injV,injB,pur,purs,purR,pursR,List.reduceReplicate,Nat.reduceMul,Nat.reduceSub,Nat.reduceEqDiff,Int.reduceToNat,Int.reduceLE,Int.reduceLT,Int.reduceEq,reduceCtorEq,↓reduceIte]
    simp[out,outs,out1,pur]
  have c2:¬(pn:Int)<(ac:Int):=by omega
  have q1:preShort [.v (.int .u64 (pn:Int)),.v (.int .u64 (ac:Int))]:=⟨pn,ac,rfl,hac,hpn⟩
  have f1:F47 [.v (.int .u64 (pn:Int)),.v (.int .u64 (ac:Int))]=.one (.v (.int .i64 (shortN (pn-ac):Nat))):=rfl
  have hn:=shortN_le (pn-ac)
  obtain⟨n,hne⟩:∃n,shortN (pn-ac)=n:=⟨_,rfl⟩
  rw[hne]at f1 hn good
  have wl:Go.IntKind.i64.wrap ((n:Int)+(b.length:Int))=((n+b.length:Nat):Int):=by rw[wrap_i64];omega
  obtain⟨hpd,hp4,hpl⟩:=padF_ok (n:=n) hb hn.1
  have hpe:padF n b=if n+b.length<4 then b++List.replicate (4-n-b.length) 0 else b:=rfl
  have hP:pktG k sp (vxs T) (vxs R) pn n b=hidF k (hdN sp (vxs T) (vxs R) pn n b++sealF (sub k 0 16) (nonF k pn) (hdN sp (vxs T) (vxs R) pn n b) (padF n b)) (atF sp) false:=rfl
  have hHe:hdN sp (vxs T) (vxs R) pn n b=hdB sp (vxs T) (vxs R) n (n+((padF n b).length+16))++nmb (pn:Int) n n:=rfl
  obtain⟨p,hpp⟩:∃p,padF n b=p:=⟨_,rfl⟩
  rw[hpp]at hpd hp4 hpl hpe hP hHe
  have wp:Go.IntKind.i64.wrap ((p.length:Int)+16)=((p.length+16:Nat):Int):=by rw[wrap_i64];omega
  have q2:prePut [.v (.agg [.int .i64 sp,T,R]),.v (.int .u64 (pn:Int)),.v (.int .i64 (n:Int)),.v (.int .i64 ((p.length+16:Nat):Int))]:=⟨sp,T,R,pn,n,p.length+16,rfl,hT,hR,hn.1,hn.2,by omega⟩
  have f2:F48 [.v (.agg [.int .i64 sp,T,R]),.v (.int .u64 (pn:Int)),.v (.int .i64 (n:Int)),.v (.int .i64 ((p.length+16:Nat):Int))]=.many [.s .u8 (putX sp (vxs T) (vxs R) pn n (n+(p.length+16))),.v (.int .i64 (putE sp (vxs T) (vxs R)))]:=rfl
  have sb:=qdd b
  have sp':=qdd p
  have sk:sub k 0 44=k:=sub_zero hkl
  by_cases hok:hdOK sp (vxs T) (vxs R)=true
  case neg =>
    have hok':hdOK sp (vxs T) (vxs R)=false:=by simpa using hok
    have hF:=bad (by simp[pktB,hok'])
    rw[putX,putE,hok',if_neg (by decide),if_neg (by decide)]at f2
    by_cases h4:n+b.length<4
    · have c3:((n+b.length:Nat):Int)<4:=by omega
      rw[if_pos h4]at hpe
      have wz1:Go.IntKind.i64.wrap (4-(n:Int))=((4-n:Nat):Int):=by rw[wrap_i64];omega
      have wz2:Go.IntKind.i64.wrap (((4-n:Nat):Int)-(b.length:Int))=((4-n-b.length:Nat):Int):=by rw[wrap_i64];omega
      have hpl2:p.length=b.length+(4-n-b.length):=by rw[hpe];simp
      have hl':=hpl2.symm
      have hpe':=hpe.symm
      simp only[ir33,rs33,gl,hF,c1,c2,c3,hag,hs3,↓hpr3,q1,f1,wl,wz1,wz2,hl',hpe',wp,q2,f2,hpT,hpR,sk,hkl,sb,sp',sub_zero,qdb,qai,List.length_cons,List.length_nil,Nat.reduceAdd,Nat.le_refl,Nat.reduceLeDiff,Nat.reduceLT,true_and,and_true,↓qar,↓qan,↓qao,↓qap,↓qam,↓qaj,↓qak,↓qaq,↓qal,idsEs,idsE,idss,killB,effE,stA,wBlk,deads,nwA,cntA,cnts,cnt,valO,blkO,inj,injs,blk,blks,outA,outR,outE,outEs,sids,List.nodup_cons,List.nodup_nil,List.not_mem_nil,List.mem_cons,or_false,false_or,not_or,↓evA,evB,evs,evp,mkB,repB,blen,↓retQ,res,resAll,resOne,kill,apartOk,exp,injV,injB,pur,purs,purR,pursR,List.reduceReplicate,Nat.reduceMul,Nat.reduceSub,Nat.reduceEqDiff,Int.reduceToNat,Int.reduceLE,Int.reduceLT,Int.reduceEq,reduceCtorEq,↓reduceIte]
      repeat(refine And.intro (by omega) ?_)
      simp[out,outs,out1,pur]
    · have c3:¬((n+b.length:Nat):Int)<4:=by omega
      rw[if_neg h4]at hpe
      subst hpe
      simp only[ir33,rs33,gl,hF,c1,c2,c3,hag,hs3,↓hpr3,q1,f1,wl,wp,q2,f2,hpT,hpR,sk,hkl,sb,sub_zero,qdb,qai,List.length_cons,List.length_nil,Nat.reduceAdd,Nat.le_refl,Nat.reduceLeDiff,Nat.reduceLT,true_and,and_true,↓qar,↓qan,↓qao,↓qap,↓qam,↓qaj,↓qak,↓qaq,↓qal,idsEs,idsE,idss,killB,effE,stA,wBlk,deads,nwA,cntA,cnts,cnt,valO,blkO,inj,injs,blk,blks,outA,outR,outE,outEs,sids,List.nodup_cons,List.nodup_nil,List.not_mem_nil,List.mem_cons,or_false,false_or,not_or,↓evA,evB,evs,evp,mkB,repB,blen,↓retQ,res,resAll,resOne,kill,apartOk,exp,injV,injB,pur,purs,purR,pursR,List.reduceReplicate,Nat.reduceMul,Nat.reduceSub,Nat.reduceEqDiff,Int.reduceToNat,Int.reduceLE,Int.reduceLT,Int.reduceEq,reduceCtorEq,↓reduceIte]
      repeat(refine And.intro (by omega) ?_)
      simp[out,outs,out1,pur]
  have hF:=good (by simp[pktB,hok,hpn,hac])
  rw[putX,putE,hok,if_pos rfl,if_pos rfl,←hHe]at f2
  have hhl:(hdN sp (vxs T) (vxs R) pn n b).length=atF sp+n:=by rw[hHe,List.length_append,hdB_len hok,nmb_len]
  have hhd:Dig 256 (hdN sp (vxs T) (vxs R) pn n b):=by rw[hHe];exact(hdB_dig htd hrd _ _).append (nmb_dig _ _ _)
  have hA:=atF_le sp
  obtain⟨a,ha⟩:∃a,atF sp=a:=⟨_,rfl⟩
  obtain⟨H,hH⟩:∃H,hdN sp (vxs T) (vxs R) pn n b=H:=⟨_,rfl⟩
  rw[hH]at f2 hhl hhd hP
  rw[ha]at hhl hP hA
  have wat:Go.IntKind.i64.wrap (((a+n:Nat):Int)-(n:Int))=(a:Int):=by rw[wrap_i64];omega
  have q3:preNon [.v (.ints .u8 k),.v (.int .u64 (pn:Int))]:=⟨k,pn,rfl,hk⟩
  have f3:F50 [.v (.ints .u8 k),.v (.int .u64 (pn:Int))]=.one (.v (.ints .u8 (nonF k pn))):=rfl
  have hN:B12 (nonF k pn):=nonS_ok hk 8
  obtain⟨N,hNe⟩:∃N,nonF k pn=N:=⟨_,rfl⟩
  rw[hNe]at f3 hN hP
  have hK:B16 (sub k 0 16):=⟨by simp[sub,hkl],sub_dig' hk.2⟩
  obtain⟨ky,hky⟩:∃ky,sub k 0 16=ky:=⟨_,rfl⟩
  rw[hky]at hK hP
  have q4:preSl [.v (.ints .u8 ky),.v (.ints .u8 N),.s .u8 H,.s .u8 p]:=⟨_,_,_,_,rfl,hK,hN,hhd,by omega,hpd,by omega⟩
  have f4:F49 [.v (.ints .u8 ky),.v (.ints .u8 N),.s .u8 H,.s .u8 p]=.one (.s .u8 (sealF ky N H p)):=rfl
  have hSl:=seal_len ky N H p
  have hSd:=seal_dig ky N H p
  obtain⟨S,hS⟩:∃S,sealF ky N H p=S:=⟨_,rfl⟩
  rw[hS]at f4 hSl hSd hP
  have hQl:(H++S).length=a+n+(p.length+16):=by rw[List.length_append,hhl,hSl]
  have q5:preHid [.v (.ints .u8 k),.w .u8 (H++S),.v (.int .i64 (a:Int)),.v (.bool false)]:=⟨k,H++S,a,false,rfl,hk,hhd.append hSd,by omega,by omega,by omega⟩
  have f5:F51 [.v (.ints .u8 k),.w .u8 (H++S),.v (.int .i64 (a:Int)),.v (.bool false)]=([[.v (.ints .u8 (hidF k (H++S) a false))]],.one (.v (.int .i64 (hcnt k (H++S) a false:Int)))):=rfl
  have hRl:(hidF k (H++S) a false).length=(H++S).length:=by
    rw[hidF,hidS_len,hfst,List.length_set]
  rw[←hP]at f5 hRl
  obtain⟨X,hX⟩:∃X,pktG k sp (vxs T) (vxs R) pn n b=X:=⟨_,rfl⟩
  rw[hX]at f5 hRl hF
  rw[hQl]at hRl
  have hkyl:=hK.1
  have hNl:=hN.1
  have sH:sub H 0 (a+n)=H:=sub_zero hhl
  have sS:sub S 0 (p.length+16)=S:=sub_zero hSl
  have sX:sub X 0 (a+n+(p.length+16))=X:=sub_zero hRl
  by_cases h4:n+b.length<4
  · have c3:((n+b.length:Nat):Int)<4:=by omega
    rw[if_pos h4]at hpe
    have wz1:Go.IntKind.i64.wrap (4-(n:Int))=((4-n:Nat):Int):=by rw[wrap_i64];omega
    have wz2:Go.IntKind.i64.wrap (((4-n:Nat):Int)-(b.length:Int))=((4-n-b.length:Nat):Int):=by rw[wrap_i64];omega
    have hpl2:p.length=b.length+(4-n-b.length):=by rw[hpe];simp
    have hl':=hpl2.symm
    have hpe':=hpe.symm
    simp only[ir33,rs33,gl,hF,c1,c2,c3,hag,hs3,↓hpr3,q1,f1,wl,wz1,wz2,hl',hpe',wp,q2,f2,hpT,hpR,hhl,wat,q3,f3,hNl,hky,hkyl,q4,f4,hSl,hQl,sH,sb,sp',sS,sk,hkl,q5,f5,hRl,sub_zero,qdb,qai,List.length_cons,List.length_nil,Nat.reduceAdd,Nat.le_refl,Nat.reduceLeDiff,Nat.reduceLT,true_and,and_true,↓qar,↓qan,↓qao,↓qap,↓qam,↓qaj,↓qak,↓qaq,↓qal,idsEs,idsE,idss,killB,effE,stA,wBlk,deads,nwA,cntA,cnts,cnt,valO,blkO,inj,injs,blk,blks,outA,outR,outE,outEs,sids,List.nodup_cons,List.nodup_nil,List.not_mem_nil,List.mem_cons,or_false,false_or,not_or,↓evA,evB,evs,evp,mkB,repB,blen,↓retQ,res,resAll,resOne,kill,apartOk,exp,injV,injB,pur,purs,purR,pursR,List.reduceReplicate,Nat.reduceMul,Nat.reduceSub,Nat.reduceEqDiff,Int.reduceToNat,Int.reduceLE,Int.reduceLT,Int.reduceEq,reduceCtorEq,↓reduceIte]
    repeat(refine And.intro (by omega) ?_)
    simp only[out,outs,out1,pur,hRl,sX,Nat.zero_add,purs,qcz,qc0,List.not_mem_nil,not_false_eq_true,true_and,and_true,Nat.reduceLeDiff,Nat.le_refl]
  · have c3:¬((n+b.length:Nat):Int)<4:=by omega
    rw[if_neg h4]at hpe
    subst hpe
    simp only[ir33,rs33,gl,hF,c1,c2,c3,hag,hs3,↓hpr3,q1,f1,wl,wp,q2,f2,hpT,hpR,hhl,wat,q3,f3,hNl,hky,hkyl,q4,f4,hSl,hQl,sH,sb,sS,sk,hkl,q5,f5,hRl,sub_zero,qdb,qai,List.length_cons,List.length_nil,Nat.reduceAdd,Nat.le_refl,Nat.reduceLeDiff,Nat.reduceLT,true_and,and_true,↓qar,↓qan,↓qao,↓qap,↓qam,↓qaj,↓qak,↓qaq,↓qal,idsEs,idsE,idss,killB,effE,stA,wBlk,deads,nwA,cntA,cnts,cnt,valO,blkO,inj,injs,blk,blks,outA,outR,outE,outEs,sids,List.nodup_cons,List.nodup_nil,List.not_mem_nil,List.mem_cons,or_false,false_or,not_or,↓evA,evB,evs,evp,mkB,repB,blen,↓retQ,res,resAll,resOne,kill,apartOk,exp,injV,injB,pur,purs,purR,pursR,List.reduceReplicate,Nat.reduceMul,Nat.reduceSub,Nat.reduceEqDiff,Int.reduceToNat,Int.reduceLE,Int.reduceLT,Int.reduceEq,reduceCtorEq,↓reduceIte]
    repeat(refine And.intro (by omega) ?_)
    simp only[out,outs,out1,pur,hRl,sX,Nat.zero_add,purs,qcz,qc0,List.not_mem_nil,not_false_eq_true,true_and,and_true,Nat.reduceLeDiff,Nat.le_refl]
end Am
set_option maxRecDepth 20000
namespace Am
open Go.Proofs
end Am
