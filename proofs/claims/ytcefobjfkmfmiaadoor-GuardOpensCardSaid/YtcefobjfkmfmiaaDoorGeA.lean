/-
Working texts: contracts of functions, and the numbers behind them.
-/
import Derived.Test.YtcefobjfkmfmiaaDoorGeB
import Derived.Test.YtcefobjfkmfmiaaDoorIrGb
import Derived.Test.YtcefobjfkmfmiaaDoorAmShape
import Derived.Test.YtcefobjfkmfmiaaDoorGdA
set_option linter.unusedSimpArgs false
set_option linter.unusedVariables false
set_option linter.unusedSectionVars false
set_option maxRecDepth 20000
namespace Am
open Go.Proofs
/-! ### Cases of packets -/
/-- A case's cells: its secret, and what follows. -/
def cs (s:List Int) (l:List V):List V:=s.map (V.int .u8)++l
theorem cs_len {s:List Int} (hs:s.length=32) (l:List V):(cs s l).length=32+l.length:=by simp[cs,hs]
theorem cs_nth {s:List Int} (hs:s.length=32) (l:List V) (i:Nat):nth (cs s l) (32+i)=nth l i:=by
  rw[nth_get,nth_get,cs,List.getElem?_append_right (by simp[hs]),List.length_map,hs,Nat.add_sub_cancel_left]
theorem cs_sub {s:List Int} (hs:s.length=32) (l:List V):sub (cs s l) 0 32=s.map (V.int .u8):=by
  simp[sub,cs,List.take_append,hs]
def vl:V→Nat
  | .rsl _ n _ _=>n
  | _=>0
def lngF:List D→Out
  | [.v (.agg c)]=>.one (.v (.bool (decide (50<vl (nth c 33))||decide (50<vl (nth c 34))||decide (120<vl (nth c 38)))))
  | _=>bad
def preLng (ds:List D):Prop:=∃(s to fr b:List Int) (sp pn ac:Int) (r:Bool),ds=[.v (.agg (cs s [.int .i64 sp,.rsl 1 to.length .u8 to,.rsl 1 fr.length .u8 fr,.int .u64 pn,.int .u64 ac,.bool r,.rsl 1 b.length .u8 b]))]∧s.length=32
def s31:Summ:=sData [.r] preLng lngF
set_option maxHeartbeats 2000000 in
theorem ok31 {g:List Blk} [Ge gl g]:SumOK Tryd.prog g 31 s31∧SumAbs s31:=by
  refine fsumA (l:=[]) mixed gl_plain rfl Tryd.func31 comp31 compR31 nt31 (by simp) fun ds ⟨s,to,fr,b,sp,pn,ac,r,hd,hs⟩ hA=>?_
  subst hd
  have hl:=cs_len hs [.int .i64 sp,.rsl 1 to.length .u8 to,.rsl 1 fr.length .u8 fr,.int .u64 pn,.int .u64 ac,.bool r,.rsl 1 b.length .u8 b]
  have h1:=cs_nth hs [.int .i64 sp,.rsl 1 to.length .u8 to,.rsl 1 fr.length .u8 fr,.int .u64 pn,.int .u64 ac,.bool r,.rsl 1 b.length .u8 b] 1
  have h2:=cs_nth hs [.int .i64 sp,.rsl 1 to.length .u8 to,.rsl 1 fr.length .u8 fr,.int .u64 pn,.int .u64 ac,.bool r,.rsl 1 b.length .u8 b] 2
  have h6:=cs_nth hs [.int .i64 sp,.rsl 1 to.length .u8 to,.rsl 1 fr.length .u8 fr,.int .u64 pn,.int .u64 ac,.bool r,.rsl 1 b.length .u8 b] 6
  obtain⟨C,hC⟩:∃C,cs s [.int .i64 sp,.rsl 1 to.length .u8 to,.rsl 1 fr.length .u8 fr,.int .u64 pn,.int .u64 ac,.bool r,.rsl 1 b.length .u8 b]=C:=⟨_,rfl⟩
  rw[hC]at hl h1 h2 h6 ⊢
  simp only[nth,Nat.reduceAdd,List.length_cons,List.length_nil]at hl h1 h2 h6
  have hF:lngF [.v (.agg C)]=.one (.v (.bool (decide (50<vl (nth C 33))||decide (50<vl (nth C 34))||decide (120<vl (nth C 38))))):=rfl
  rw[h1,h2,h6]at hF
  simp only[vl]at hF
  by_cases c1:50<to.length
  · have d1:(50:Int)<(to.length:Int):=by omega
    simp only[ir31,rs31,gl,hF,hl,h1,h2,h6,d1,sub_zero,qdb,qai,List.length_cons,List.length_nil,Nat.reduceAdd,Nat.le_refl,Nat.reduceLeDiff,Nat.reduceLT,true_and,and_true,↓evA,evB,evs,evp,mkB,repB,blen,↓retQ,res,resAll,resOne,kill,apartOk,exp,injV,injB,pur,purs,purR,pursR,List.reduceReplicate,Nat.reduceMul,Nat.reduceSub,Nat.reduceEqDiff,Int.reduceToNat,Int.reduceLE,Int.reduceLT,Int.reduceEq,reduceCtorEq,↓reduceIte]
    simp[out,outs,out1,pur,c1]
  have d1:¬(50:Int)<(to.length:Int):=by omega
  by_cases c2:50<fr.length
  · have d2:(50:Int)<(fr.length:Int):=by omega
    simp only[ir31,rs31,gl,hF,hl,h1,h2,h6,d1,d2,sub_zero,qdb,qai,List.length_cons,List.length_nil,Nat.reduceAdd,Nat.le_refl,Nat.reduceLeDiff,Nat.reduceLT,true_and,and_true,↓evA,evB,evs,evp,mkB,repB,blen,↓retQ,res,resAll,resOne,kill,apartOk,exp,injV,injB,pur,purs,purR,pursR,List.reduceReplicate,Nat.reduceMul,Nat.reduceSub,Nat.reduceEqDiff,Int.reduceToNat,Int.reduceLE,Int.reduceLT,Int.reduceEq,reduceCtorEq,↓reduceIte]
    simp[out,outs,out1,pur,c2]
  have d2:¬(50:Int)<(fr.length:Int):=by omega
  by_cases c3:120<b.length
  · have d3:(120:Int)<(b.length:Int):=by omega
    simp only[ir31,rs31,gl,hF,hl,h1,h2,h6,d1,d2,d3,sub_zero,qdb,qai,List.length_cons,List.length_nil,Nat.reduceAdd,Nat.le_refl,Nat.reduceLeDiff,Nat.reduceLT,true_and,and_true,↓evA,evB,evs,evp,mkB,repB,blen,↓retQ,res,resAll,resOne,kill,apartOk,exp,injV,injB,pur,purs,purR,pursR,List.reduceReplicate,Nat.reduceMul,Nat.reduceSub,Nat.reduceEqDiff,Int.reduceToNat,Int.reduceLE,Int.reduceLT,Int.reduceEq,reduceCtorEq,↓reduceIte]
    simp[out,outs,out1,pur,c3]
  have d3:¬(120:Int)<(b.length:Int):=by omega
  simp only[ir31,rs31,gl,hF,hl,h1,h2,h6,d1,d2,d3,sub_zero,qdb,qai,List.length_cons,List.length_nil,Nat.reduceAdd,Nat.le_refl,Nat.reduceLeDiff,Nat.reduceLT,true_and,and_true,↓evA,evB,evs,evp,mkB,repB,blen,↓retQ,res,resAll,resOne,kill,apartOk,exp,injV,injB,pur,purs,purR,pursR,List.reduceReplicate,Nat.reduceMul,Nat.reduceSub,Nat.reduceEqDiff,Int.reduceToNat,Int.reduceLE,Int.reduceLT,Int.reduceEq,reduceCtorEq,↓reduceIte]
  simp[out,outs,out1,pur,c1,c2,c3]
def F35:List D→Out
  | [.v (.int _ n)]=>.one (.v (.int .i64 (if n=0 then 26 else if n=1 then 25 else 9)))
  | _=>bad
def prePl (ds:List D):Prop:=∃n:Nat,ds=[.v (.int .i64 (n:Int))]∧n<3
def s35:Summ:=sData [.v] prePl F35
theorem ok35 {g:List Blk} [Ge gl g]:SumOK Tryd.prog g 35 s35∧SumAbs s35:=by
  refine fsumA (l:=[]) mixed gl_plain rfl Tryd.func35 comp35 compR35 nt35 (by simp) fun ds ⟨n,hd,hn⟩ hA=>?_
  subst hd
  rcases (by omega:n=0∨n=1∨n=2)with rfl | rfl | rfl
  all_goals
    simp only[ir35,rs35,gl,F35,sub_zero,qdb,qai,List.length_cons,List.length_nil,Nat.reduceAdd,Nat.le_refl,Nat.reduceLeDiff,Nat.reduceLT,true_and,and_true,↓evA,evB,evs,evp,mkB,repB,blen,↓retQ,res,resAll,resOne,kill,apartOk,exp,injV,injB,pur,purs,purR,pursR,List.reduceReplicate,Nat.reduceMul,Nat.reduceSub,Nat.reduceEqDiff,Int.reduceToNat,Int.reduceLE,Int.reduceLT,Int.reduceEq,reduceCtorEq,↓reduceIte]
    simp[out,outs,out1,pur,getI]
/-! A case's head, made right. -/
def p8 (x:List Int):List Int:=(x++List.replicate 8 0).take 8
theorem p8_len (x:List Int):(p8 x).length=8:=by simp[p8]
theorem p8_dig {x:List Int} (h:Dig 256 x):Dig 256 (p8 x):=(h.append fun x hx=>by rw[(List.mem_replicate.1 hx).2];decide).take 8
def vn:V→Int
  | .int _ n=>n
  | _=>0
def sp3 (n:Int):Nat:=(n%18446744073709551616%3).toNat
def pnR (n:Int):Nat:=n.toNat%4611686018427387904
def acR (n m:Int):Nat:=pnR n-min (pnR n) (m.toNat%70000)
def preHd (ds:List D):Prop:=∃(s to fr b:List Int) (sp:Int) (pn ac:Nat),ds=[.v (.agg (cs s [.int .i64 sp,.rsl 1 to.length .u8 to,.rsl 1 fr.length .u8 fr,.int .u64 (pn:Int),.int .u64 (ac:Int),.bool true,.rsl 1 b.length .u8 b]))]∧s.length=32∧(-9223372036854775808≤sp∧sp<9223372036854775808)∧to.length≤50∧fr.length≤50∧pn<18446744073709551616
def hdF:List D→RT
  | [.v (.agg c)]=>⟨[some 3,none,none],[.v (.int .i64 (sp3 (vn (nth c 32)))),.s .u8 (p8 (vxs (nth c 33))),.s .u8 (p8 (vxs (nth c 34))),.v (.int .u64 (pnR (vn (nth c 35)))),.v (.int .u64 (acR (vn (nth c 35)) (vn (nth c 36))))]⟩
  | _=>⟨[],[]⟩
def s32:Summ:=sRT [.r] preHd hdF
set_option maxHeartbeats 4000000 in
theorem ok32 {g:List Blk} [Ge gl g]:SumOK Tryd.prog g 32 s32∧SumAbs s32:=by
  refine tsumA (l:=[]) mixed gl_plain rfl Tryd.func32 comp32 compR32 nt32 (by simp) fun ds ⟨s,to,fr,b,sp,pn,ac,hd,hs,hsp,htl,hfl,hpn⟩ hA=>?_
  subst hd
  obtain⟨l,hl⟩:∃l:List V,[.int .i64 sp,.rsl 1 to.length .u8 to,.rsl 1 fr.length .u8 fr,.int .u64 (pn:Int),.int .u64 (ac:Int),.bool true,.rsl 1 b.length .u8 b]=l:=⟨_,rfl⟩
  have hn:=cs_nth hs l
  have h0:=hn 0
  have h1:=hn 1
  have h2:=hn 2
  have h3:=hn 3
  have h4:=hn 4
  have h5:=hn 5
  have hcl:=cs_len hs l
  rw[hl]
  obtain⟨C,hC⟩:∃C,cs s l=C:=⟨_,rfl⟩
  rw[hC]at h0 h1 h2 h3 h4 h5 hcl ⊢
  rw[←hl]at h0 h1 h2 h3 h4 h5 hcl
  simp only[nth,Nat.reduceAdd,List.length_cons,List.length_nil]at h0 h1 h2 h3 h4 h5 hcl
  have hF:hdF [.v (.agg C)]=⟨[some 3,none,none],[.v (.int .i64 (sp3 (vn (nth C 32)))),.s .u8 (p8 (vxs (nth C 33))),.s .u8 (p8 (vxs (nth C 34))),.v (.int .u64 (pnR (vn (nth C 35)))),.v (.int .u64 (acR (vn (nth C 35)) (vn (nth C 36))))]⟩:=rfl
  rw[h0,h1,h2,h3,h4]at hF
  simp only[vn,vxs]at hF
  have p1:((pn:Int)).tmod 4611686018427387904=((pn%4611686018427387904:Nat):Int):=tmod_nat (k:=4611686018427387904)
  have p2:((ac:Int)).tmod 70000=((ac%70000:Nat):Int):=tmod_nat (k:=70000)
  obtain⟨P,hP⟩:∃P,pn%4611686018427387904=P:=⟨_,rfl⟩
  obtain⟨A,hA1⟩:∃A,ac%70000=A:=⟨_,rfl⟩
  rw[hP]at p1
  rw[hA1]at p2
  have hPl:P<4611686018427387904:=by rw[←hP];exact Nat.mod_lt _ (by decide)
  have u1:(upd C 35 (V.int .u64 (P:Int))).length=39:=by rw[upd_set,List.length_set,hcl]
  have u2:=nth_upd C 35 35 (V.int .u64 (P:Int))
  have u3:=nth_upd C 35 36 (V.int .u64 (P:Int))
  rw[if_pos (by omega)]at u2
  rw[if_neg (by omega),h4]at u3
  obtain⟨C1,hC1⟩:∃C1,upd C 35 (V.int .u64 (P:Int))=C1:=⟨_,rfl⟩
  rw[hC1]at u1 u2 u3
  have wsp:Go.IntKind.i64.wrap ((Go.IntKind.u64.wrap sp).tmod 3)=((sp3 sp:Nat):Int):=by
    unfold sp3
    rw[wrap_u64,wrap_i64,Int.tmod_eq_emod_of_nonneg (by omega)]
    omega
  have wm:Go.IntKind.u64.wrap ((P:Int)-min (P:Int) (A:Int))=((P-min P A:Nat):Int):=by rw[wrap_u64];omega
  obtain⟨Q,hQ⟩:∃Q,P-min P A=Q:=⟨_,rfl⟩
  rw[hQ]at wm
  have hpR:pnR (pn:Int)=P:=by rw[←hP];rfl
  have haR:acR (pn:Int) (ac:Int)=Q:=by unfold acR;rw[hpR,←hQ,←hA1];rfl
  rw[hpR,haR]at hF
  have v1:(upd C1 36 (V.int .u64 (Q:Int))).length=39:=by rw[upd_set,List.length_set,u1]
  have v2:=nth_upd C1 36 35 (V.int .u64 (Q:Int))
  have v3:=nth_upd C1 36 36 (V.int .u64 (Q:Int))
  rw[if_neg (by omega),u2]at v2
  rw[if_pos (by omega)]at v3
  obtain⟨C2,hC2⟩:∃C2,upd C1 36 (V.int .u64 (Q:Int))=C2:=⟨_,rfl⟩
  rw[hC2]at v1 v2 v3
  obtain⟨z,hz⟩:∃z,sp3 sp=z:=⟨_,rfl⟩
  rw[hz]at wsp hF
  have g1:agI [V.int .i64 sp,.rsl 1 to.length .u8 to,.rsl 1 fr.length .u8 fr]=.agg [V.int .i64 sp,.rsl 1 to.length .u8 to,.rsl 1 fr.length .u8 fr]:=rfl
  have g2:agI [V.int .i64 (z:Int),V.slice 9 0 1 8 (to.length+8),V.slice 12 0 1 8 (fr.length+8)]=.agg [V.int .i64 (z:Int),V.slice 9 0 1 8 (to.length+8),V.slice 12 0 1 8 (fr.length+8)]:=rfl
  have g3:spl [V.int .i64 0,V.nils,V.nils] 0 [V.int .i64 (z:Int),V.slice 9 0 1 8 (to.length+8),V.slice 12 0 1 8 (fr.length+8)]=[V.int .i64 (z:Int),V.slice 9 0 1 8 (to.length+8),V.slice 12 0 1 8 (fr.length+8)]:=rfl
  have g4:sub [V.int .i64 (z:Int),V.slice 9 0 1 8 (to.length+8),V.slice 12 0 1 8 (fr.length+8)] 0 3=[V.int .i64 (z:Int),V.slice 9 0 1 8 (to.length+8),V.slice 12 0 1 8 (fr.length+8)]:=rfl
  simp only[ir32,rs32,gl,hF,hcl,h0,h1,h2,h3,h4,h5,g1,g2,g3,g4,p1,p2,wsp,wm,hC1,u1,u2,u3,hC2,v1,v2,v3,sub_zero,qdb,qai,List.length_cons,List.length_nil,Nat.reduceAdd,Nat.le_refl,Nat.reduceLeDiff,Nat.reduceLT,true_and,and_true,↓evA,evB,evs,evp,mkB,repB,blen,↓retQ,res,resAll,resOne,kill,apartOk,exp,injV,injB,pur,purs,purR,pursR,List.reduceReplicate,Nat.reduceMul,Nat.reduceSub,Nat.reduceEqDiff,Int.reduceToNat,Int.reduceLE,Int.reduceLT,Int.reduceEq,reduceCtorEq,↓reduceIte]
  repeat(refine And.intro (by omega) ?_)
  refine⟨_,_,rfl,rfl,?_⟩
  have e1:∀x:List Int,sub (x++[0,0,0,0,0,0,0,0]) 0 8=p8 x:=fun x=>by simp[sub,p8]
  simp[outs,out1,pur,e1,nthB]
end Am
set_option maxRecDepth 20000
namespace Am
open Go.Proofs
/-! ### An opened packet -/
def shN (d:List Int) (a:Nat):Nat→Nat
  | 0=>0
  | i+1=>shN d a i*256+(getI d (a+i)).toNat
theorem shN_lt {d:List Int} (hd:Dig 256 d) (a:Nat):∀n,shN d a n<pw8 n
  | 0=>by simp[shN,pw8]
  | n+1=>by
    have ih:=shN_lt hd a n
    have hb:Bt (getI d (a+n)):=hd.all (by decide) _
    have h2:=hb.2
    have h1:=hb.1
    rw[shN,pw8]
    omega
theorem shN_step {d:List Int} (hd:Dig 256 d) {a n:Nat} (hn:n<4):bOr .u64 (iShl .u64 ((shN d a n:Nat):Int) 8) (getI d (a+n))=((shN d a (n+1):Nat):Int):=by
  have ih:=shN_lt hd a n
  have hp:pw8 n≤16777216:=by rcases (by omega:n=0∨n=1∨n=2∨n=3)with rfl | rfl | rfl | rfl<;>decide
  obtain⟨x,hx,hx2⟩:=(show Bt (getI d (a+n))from hd.all (by decide) _).nat
  rw[shN,hx]
  obtain⟨s,hs⟩:∃s,shN d a n=s:=⟨_,rfl⟩
  rw[hs]at ih ⊢
  have e:iShl .u64 (s:Int) 8=((s*256:Nat):Int):=by
    unfold iShl
    show Go.IntKind.u64.wrap ((s:Int)*2^(min 8 64))=_
    rw[show min 8 64=8 from rfl,wrap_u64]
    simp only[Int.reducePow]
    omega
  rw[e,o64 (by omega) (by omega)]
  congr 1
  rw[Int.toNat_natCast,Nat.mul_comm s 256,show (256:Nat)=2^8 from rfl,Nat.two_pow_add_eq_or_of_lt (by simpa using hx2)]
def rst (d:List Int):Int:=bAnd .u8 (getI d 0) (if bAnd .u8 (getI d 0) 128=0 then 28 else 12)
/-- What stands in a packet: its bytes unhidden, how many its number has, the number, what it carries. -/
def opD (k b:List Int) (a e:Nat):List Int:=hidF k (sub b 0 e) a true
def opN (k b:List Int) (a e:Nat):Nat:=hcnt k (sub b 0 e) a true
def opP (k b:List Int) (a e x:Nat):Nat:=fullF (shN (opD k b a e) a (opN k b a e)) (opN k b a e) x
def opH (k b:List Int) (a e:Nat):List Int:=sub (opD k b a e) 0 (a+opN k b a e)
def opT (k b:List Int) (a e:Nat):List Int:=sub (opD k b a e) (a+opN k b a e) (e-(a+opN k b a e))
theorem hidF_len (k b:List Int) (a:Nat) (h:Bool):(hidF k b a h).length=b.length:=by rw[hidF,hidS_len,hfst,List.length_set]
theorem hidF_dig {k b:List Int} (hb:Dig 256 b) (a:Nat) (h:Bool):Dig 256 (hidF k b a h):=by
  unfold hidF
  exact itr_inv (fun _ (s:List Int)=>Dig 256 s) (by unfold hfst;exact hb.set _ (x8_bd _ _).1 (x8_bd _ _).2) (fun n s hs=>hs.set _ (x8_bd _ _).1 (x8_bd _ _).2) _
end Am
set_option maxRecDepth 20000
namespace Am
open Go.Proofs
/-! ### What is hidden twice is what it was -/
theorem getI_sv {l:List Int} {i j:Nat} {v:Int} (h:i<l.length):getI (l.set i v) j=if i=j then v else getI l j:=by
  rw[getI_set _ _ _ _ h]
  by_cases e:i=j
  · rw[if_pos e,if_pos e.symm]
  · rw[if_neg e,if_neg (fun h=>e h.symm)]
theorem hid_get {m s:List Int} {a:Nat}:∀n,a+n≤s.length→∀j,getI (itr (hidS m a) s n) j=if a≤j∧j<a+n then bXor .u8 (getI s j) (getI m (1+(j-a)))else getI s j
  | 0,_,j=>by rw[if_neg (by omega)];rfl
  | n+1,h,j=>by
    have hl:=hidS_len (m:=m) (a:=a) (b:=s) n
    have e:itr (hidS m a) s (n+1)=hidS m a (itr (hidS m a) s n) n:=rfl
    have g1:getI (itr (hidS m a) s n) (a+n)=getI s (a+n):=by rw[hid_get n (by omega) (a+n),if_neg (by omega)]
    rw[e,hidS,getI_sv (by rw[hl];omega),g1,hid_get n (by omega) j]
    by_cases hj:a+n=j
    · rw[if_pos hj,if_pos (by omega),←hj,Nat.add_sub_cancel_left]
    · rw[if_neg hj]
      by_cases h2:a≤j∧j<a+n
      · rw[if_pos h2,if_pos (by omega)]
      · rw[if_neg h2,if_neg (by omega)]
theorem bits_top {x m t:Int} (hx:Bt x) (hm:Bt m) (ht:t=31∨t=15):bAnd .u8 (bXor .u8 x (bAnd .u8 m t)) 128=bAnd .u8 x 128:=by
  obtain⟨p,rfl,hp⟩:=hx.nat
  obtain⟨q,rfl,hq⟩:=hm.nat
  have key:∀r:Nat,r<256→r &&& 128=0→bAnd .u8 (bXor .u8 (p:Int) (bAnd .u8 (q:Int) (r:Int))) ((128:Nat):Int)=bAnd .u8 (p:Int) ((128:Nat):Int):=fun r hr h0=>by
    have h1:q &&& r<256:=Nat.and_lt_two_pow (n:=8) _ hr
    rw[an8 hq hr,xn hp h1,an8 (Nat.xor_lt_two_pow (n:=8) hp h1) (by decide),an8 hp (by decide),Nat.and_xor_distrib_right,Nat.and_assoc,h0,Nat.and_zero,Nat.xor_zero]
  rcases ht with rfl | rfl
  · exact key 31 (by decide) (by decide)
  · exact key 15 (by decide) (by decide)
theorem hbits_or (x:Int):hbits x=31∨hbits x=15:=by unfold hbits;split;exact .inl rfl;exact .inr rfl
theorem getI_sb {l:List Int} {o n j:Nat} (h:j<n):getI (sub l o n) j=getI l (o+j):=by
  simp[getI,sub,List.getD_eq_getElem?_getD,List.getElem?_take_of_lt h,List.getElem?_drop]
theorem hid_inv {k Q:List Int} {a:Nat} (hk:K44 k) (hQ:Dig 256 Q) (ha:1≤a) (hl:a+20≤Q.length) :
    hidF k (hidF k Q a false) a true=Q∧hcnt k (hidF k Q a false) a true=hcnt k Q a false:=by
  have hn:=hnum_le (getI Q 0)
  have hc:hcnt k Q a false=hnum (getI Q 0):=rfl
  have hf:hfst k Q a=Q.set 0 (bXor .u8 (getI Q 0) (bAnd .u8 (getI (hmask k Q a) 0) (hbits (getI Q 0)))):=rfl
  have hm:B16 (hmask k Q a):=enc_ok ⟨by simp[sub,hk.1],sub_dig' hk.2⟩ ⟨by simp[sub];omega,sub_dig' hQ⟩
  have hR:hidF k Q a false=itr (hidS (hmask k Q a) a) (hfst k Q a) (hnum (getI Q 0)):=rfl
  have hRl:=hidF_len k Q a false
  obtain⟨n,hne⟩:∃n,hnum (getI Q 0)=n:=⟨_,rfl⟩
  rw[hne]at hn hc hR
  obtain⟨Q1,hQ1⟩:∃Q1,hfst k Q a=Q1:=⟨_,rfl⟩
  rw[hQ1]at hf hR
  have hQl:Q1.length=Q.length:=by rw[hf,List.length_set]
  have hg:∀j,getI (hidF k Q a false) j=if a≤j∧j<a+n then bXor .u8 (getI Q1 j) (getI (hmask k Q a) (1+(j-a)))else getI Q1 j:=fun j=>by
    rw[hR];exact hid_get n (by omega) j
  have hq:∀j,getI Q1 j=if 0=j then bXor .u8 (getI Q 0) (bAnd .u8 (getI (hmask k Q a) 0) (hbits (getI Q 0)))else getI Q j:=fun j=>by
    rw[hf,getI_sv (by omega)]
  have hs:sub (hidF k Q a false) (a+4) 16=sub Q (a+4) 16:=by
    refine getI_ext (by simp[sub,hRl]) fun j hj=>?_
    have hj16:j<16:=by simp[sub,hRl]at hj;omega
    rw[getI_sb hj16,getI_sb hj16,hg,if_neg (by omega),hq,if_neg (by omega)]
  have hmm:hmask k (hidF k Q a false) a=hmask k Q a:=by unfold hmask;rw[hs]
  obtain⟨R,hRe⟩:∃R,hidF k Q a false=R:=⟨_,rfl⟩
  rw[hRe]at hRl hg hmm
  simp only[hRe]
  obtain⟨m,hme⟩:∃m,hmask k Q a=m:=⟨_,rfl⟩
  rw[hme]at hm hmm
  simp only[hme]at hg hq
  have m0:Bt (getI m 0):=hm.2.all (by decide) 0
  have q0:Bt (getI Q 0):=hQ.all (by decide) 0
  have r0:getI R 0=bXor .u8 (getI Q 0) (bAnd .u8 (getI m 0) (hbits (getI Q 0))):=by rw[hg,if_neg (by omega),hq,if_pos rfl]
  have hbb:hbits (getI R 0)=hbits (getI Q 0):=by
    have e:bAnd .u8 (getI R 0) 128=bAnd .u8 (getI Q 0) 128:=by rw[r0,bits_top q0 m0 (hbits_or _)]
    unfold hbits
    rw[e]
  have f0:Bt (bAnd .u8 (getI m 0) (hbits (getI Q 0))):=by unfold bAnd;exact w8_bd _
  have hf2:hfst k R a=R.set 0 (getI Q 0):=by
    unfold hfst
    rw[hmm,hbb,r0,xx_self q0 f0]
  have hc2:hcnt k R a true=n:=by
    show hnum (getI (hfst k R a) 0)=n
    rw[hf2,getI_sv (by omega),if_pos rfl,hne]
  refine⟨?_,by rw[hc2,hc]⟩
  unfold hidF
  rw[hc2,hmm,hf2]
  refine getI_ext (by rw[hidS_len,List.length_set,hRl]) fun j hj=>?_
  have hjQ:Bt (getI Q j):=hQ.all (by decide) j
  rw[hid_get n (by rw[List.length_set];omega),getI_sv (by omega)]
  by_cases h1:a≤j∧j<a+n
  · rw[if_pos h1,if_neg (by omega),hg,if_pos h1,hq,if_neg (by omega),xx_self hjQ (hm.2.all (by decide) _)]
  · rw[if_neg h1]
    by_cases h2:0=j
    · rw[if_pos h2,←h2]
    · rw[if_neg h2,hg,if_neg h1,hq,if_neg h2]
/-! ### A packet's number comes back -/
theorem full_back {pn x n:Nat} (hx:x≤pn) (hpn:pn<4611686018427387904) (hn1:1≤n) (hn4:n≤4) (hd:2*(pn-x)+1<pw8 n):fullF (pn%pw8 n) n x=pn:=by
  have hW:(∃h,pw8 n=2*h)∧256≤pw8 n∧4611686018427387904%pw8 n=0:=by
    rcases (by omega:n=1∨n=2∨n=3∨n=4)with rfl | rfl | rfl | rfl
    · exact⟨⟨128,rfl⟩,by decide,by decide⟩
    · exact⟨⟨32768,rfl⟩,by decide,by decide⟩
    · exact⟨⟨8388608,rfl⟩,by decide,by decide⟩
    · exact⟨⟨2147483648,rfl⟩,by decide,by decide⟩
  obtain⟨⟨h,hh⟩,hW1,hW2⟩:=hW
  unfold fullF
  obtain⟨W,hWe⟩:∃W,pw8 n=W:=⟨_,rfl⟩
  simp only[hWe]
  rw[hWe]at hd hh hW1 hW2
  have e1:pn%W%W=pn%W:=Nat.mod_mod _ _
  have p1:=Nat.div_add_mod pn W
  have x1:=Nat.div_add_mod x W
  have pm:pn%W<W:=Nat.mod_lt _ (by omega)
  have xm:x%W<W:=Nat.mod_lt _ (by omega)
  rw[e1]
  have hq:pn/W=x/W∨pn/W=x/W+1:=by
    have h1:x/W≤pn/W:=Nat.div_le_div_right hx
    have h2:pn/W≤(x+W)/W:=Nat.div_le_div_right (by omega)
    rw[Nat.add_div_right _ (by omega)]at h2
    omega
  obtain⟨u,hu⟩:∃u,x/W=u:=⟨_,rfl⟩
  rw[hu]at hq x1 ⊢
  rw[Nat.mul_comm W u]at x1
  rcases hq with hq | hq
  · rw[hq,Nat.mul_comm W u]at p1
    rw[if_neg (by omega),if_neg (by omega)]
    omega
  · have e2:W*(pn/W)=u*W+W:=by rw[hq,Nat.mul_comm,Nat.add_mul,Nat.one_mul]
    rw[e2]at p1
    have hb:u*W+pn%W<4611686018427387904-W:=by omega
    rw[if_pos ⟨by omega,hb⟩]
    omega
theorem sh_back {pn n:Nat} {Q:List Int} {a:Nat} (hn4:n≤4) (h:∀i,i<n→getI Q (a+i)=((pn/2^(8*(n-1-i))%256:Nat):Int)):∀i,i≤n→shN Q a i=pn/2^(8*(n-i))%pw8 i
  | 0,_=>by simp[shN,pw8,Nat.mod_one]
  | i+1,hi=>by
    rw[shN,sh_back hn4 h i (by omega),h i (by omega),Int.toNat_natCast,pw8]
    have e:8*(n-i)=8*(n-1-i)+8:=by omega
    have e2:n-(i+1)=n-1-i:=by omega
    rw[e2,e,Nat.pow_add,←Nat.div_div_eq_div_mul]
    obtain⟨y,hy⟩:∃y,pn/2^(8*(n-1-i))=y:=⟨_,rfl⟩
    rw[hy,show (2:Nat)^8=256 from rfl,Nat.mod_mul]
    omega
end Am
set_option maxRecDepth 20000
namespace Am
open Go.Proofs
/-! ### A sealed packet -/
def padF (n:Nat) (b:List Int):List Int:=if n+b.length<4 then b++List.replicate (4-n-b.length) 0 else b
/-- Where the number begins. -/
def atF (sp:Int):Nat:=if sp=2 then 9 else if sp=0 then 26 else 25
def hdN (sp:Int) (to fr:List Int) (pn n:Nat) (b:List Int):List Int:=hdB sp to fr n (n+((padF n b).length+16))++nmb (pn:Int) n n
def pktG (k:List Int) (sp:Int) (to fr:List Int) (pn n:Nat) (b:List Int):List Int :=
  hidF k (hdN sp to fr pn n b++sealF (sub k 0 16) (nonF k pn) (hdN sp to fr pn n b) (padF n b)) (atF sp) false
def pktB (sp:Int) (to fr:List Int) (pn ac:Nat):Bool:=decide (pn<4611686018427387904)&&decide (ac≤pn)&&hdOK sp to fr
def pktX (k:List Int) (sp:Int) (to fr:List Int) (pn ac:Nat) (b:List Int):List Int:=if pktB sp to fr pn ac then pktG k sp to fr pn (shortN (pn-ac)) b else []
def pktE (sp:Int) (to fr:List Int) (pn ac:Nat):Int:=if pktB sp to fr pn ac then 0 else 2
def preGS (ds:List D):Prop:=∃(k:List Int) (sp:Int) (T R:V) (pn ac:Nat) (b:List Int),ds=[.v (.ints .u8 k),.v (.agg [.int .i64 sp,T,R]),.v (.int .u64 (pn:Int)),.v (.int .u64 (ac:Int)),.s .u8 b] ∧
  K44 k∧Sl T∧Dig 256 (vxs T)∧Sl R∧Dig 256 (vxs R)∧Dig 256 b∧b.length≤200
def F33:List D→Out
  | [.v (.ints _ k),.v (.agg [.int _ sp,T,R]),.v (.int _ pn),.v (.int _ ac),.s _ b]=>.many [.s .u8 (pktX k sp (vxs T) (vxs R) pn.toNat ac.toNat b),.v (.int .i64 (pktE sp (vxs T) (vxs R) pn.toNat ac.toNat))]
  | _=>bad
def s33:Summ:=sData [.v,.r,.v,.v,.s .u8] preGS F33
theorem shortN_le (d:Nat):1≤shortN d∧shortN d≤4:=by 
  unfold shortN
  split
  · omega
  split
  · omega
  split<;>omega
theorem hdOK_iff {sp:Int} {to fr:List Int}:hdOK sp to fr=true↔to.length=8∧0≤sp∧sp<3∧(sp=2∨fr.length=8):=by
  simp[hdOK,and_assoc]
theorem hdB_len {sp:Int} {to fr:List Int} (h:hdOK sp to fr=true) (n m:Nat):(hdB sp to fr n m).length=atF sp:=by
  obtain⟨h1,h2,h3,h4⟩:=hdOK_iff.1 h
  unfold hdB atF
  by_cases e2:sp=2
  · rw[if_pos e2,if_pos e2];simp[h1]
  · rw[if_neg e2,if_neg e2]
    have h5:=h4.resolve_left e2
    by_cases e0:sp=0
    · rw[if_pos e0,if_pos e0];simp[hdL,hdZ,h1,h5]
    · rw[if_neg e0,if_neg e0];simp[hdL,hdZ,h1,h5]
theorem fb_bt (n:Nat):Bt (fb n):=by unfold fb bOr;exact w8_bd _
theorem fbl_bt (sp:Int) (n:Nat):Bt (fbl sp n):=by unfold fbl bOr;exact w8_bd _
theorem hdB_dig {sp:Int} {to fr:List Int} (ht:Dig 256 to) (hf:Dig 256 fr) (n m:Nat):Dig 256 (hdB sp to fr n m):=by
  have hL:Dig 256 (hdL sp to fr n):=by
    intro x hx
    simp only[hdL,List.cons_append,List.mem_cons,List.mem_append]at hx
    rcases hx with rfl | rfl | rfl | rfl | rfl | rfl | hx | rfl | hx
    · exact fbl_bt sp n
    · decide
    · decide
    · decide
    · decide
    · decide
    · exact ht x hx
    · decide
    · exact hf x hx
  have hZ:Dig 256 (hdZ m):=by
    intro x hx
    simp only[hdZ,List.mem_cons,List.not_mem_nil,or_false]at hx
    rcases hx with rfl | rfl
    · unfold bOr;exact w8_bd _
    · exact w8_bd _
  unfold hdB
  split
  · intro x hx
    rcases List.mem_cons.1 hx with rfl | hx
    · exact fb_bt n
    · exact ht x hx
  split
  · exact(hL.append fun x hx=>by rw[List.mem_singleton.1 hx];decide).append hZ
  · exact hL.append hZ
theorem padF_ok {n:Nat} {b:List Int} (hb:Dig 256 b) (h:1≤n):Dig 256 (padF n b)∧4≤n+(padF n b).length∧(padF n b).length≤b.length+3:=by
  unfold padF
  split
  · exact⟨hb.append fun x hx=>by rw[(List.mem_replicate.1 hx).2];decide,by simp;omega,by simp;omega⟩
  · exact⟨hb,by omega,by omega⟩
theorem atF_le (sp:Int):9≤atF sp∧atF sp≤26:=by
  unfold atF
  split
  · omega
  split<;>omega
set_option maxHeartbeats 8000000 in
theorem ok33 {g:List Blk} [Ge gl g]:SumOK Tryd.prog g 33 s33∧SumAbs s33:=by
  refine fsumA (l:=[(47,s47),(48,s48),(50,s50),(49,s49),(51,s51)]) mixed gl_plain rfl Tryd.func33 comp33 compR33 nt33 (by simp only[List.mem_cons,List.not_mem_nil,or_false,forall_eq_or_imp,forall_eq];exact⟨ok47,ok48,ok50,ok49,ok51⟩) fun ds ⟨k,sp,T,R,pn,ac,b,hd,hk,hT,htd,hR,hrd,hb,hbl⟩ hA=>?_
  subst hd
  have hkl:=hk.1
  have hF:F33 [.v (.ints .u8 k),.v (.agg [.int .i64 sp,T,R]),.v (.int .u64 (pn:Int)),.v (.int .u64 (ac:Int)),.s .u8 b]=.many [.s .u8 (pktX k sp (vxs T) (vxs R) pn ac b),.v (.int .i64 (pktE sp (vxs T) (vxs R) pn ac))]:=rfl
  have hpT:=hT.pur
  have hgT:=hT.gc
  have hpR:=hR.pur
  have hgR:=hR.gc
  have hag:agI [V.int .i64 sp,T,R]=.agg [V.int .i64 sp,T,R]:=by
    rcases hT with h | h<;>rcases hR with h' | h'<;>rw[h,h']<;>rfl
  have hpr3:pursR [V.int .i64 sp,T,R]=true:=by simp[pursR,purR,hpT,hpR]
  have hs3:sub [V.int .i64 sp,T,R] 0 3=[V.int .i64 sp,T,R]:=rfl
  have bad:∀h:pktB sp (vxs T) (vxs R) pn ac=false,F33 [.v (.ints .u8 k),.v (.agg [.int .i64 sp,T,R]),.v (.int .u64 (pn:Int)),.v (.int .u64 (ac:Int)),.s .u8 b]=.many [.s .u8 [],.v (.int .i64 2)]:=fun h=>by
    rw[hF,pktX,pktE,h];rfl
  have good:∀h:pktB sp (vxs T) (vxs R) pn ac=true,F33 [.v (.ints .u8 k),.v (.agg [.int .i64 sp,T,R]),.v (.int .u64 (pn:Int)),.v (.int .u64 (ac:Int)),.s .u8 b]=.many [.s .u8 (pktG k sp (vxs T) (vxs R) pn (shortN (pn-ac)) b),.v (.int .i64 0)]:=fun h=>by
    rw[hF,pktX,pktE,h];rfl
  clear hF
  simp only[s51,s47,s48,s50,s49]
  by_cases hpn:pn<4611686018427387904
  case neg =>
    have hF:=bad (by simp[pktB,hpn])
    have c1:(4611686018427387903:Int)<(pn:Int):=by omega
    simp only[ir33,rs33,gl,hF,c1,sub_zero,qdb,qai,List.length_cons,List.length_nil,Nat.reduceAdd,Nat.le_refl,Nat.reduceLeDiff,Nat.reduceLT,true_and,and_true,↓qar,↓qan,↓qao,↓qap,↓qam,↓qaj,↓qak,↓qaq,↓qal,idsEs,idsE,idss,killB,effE,stA,wBlk,deads,nwA,cntA,cnts,cnt,valO,blkO,inj,injs,blk,blks,outA,outR,outE,outEs,sids,List.nodup_cons,List.nodup_nil,List.not_mem_nil,List.mem_cons,or_false,false_or,not_or,↓evA,evB,evs,evp,mkB,repB,blen,↓retQ,res,resAll,resOne,kill,apartOk,exp,injV,injB,pur,purs,purR,pursR,List.reduceReplicate,Nat.reduceMul,Nat.reduceSub,Nat.reduceEqDiff,Int.reduceToNat,Int.reduceLE,Int.reduceLT,Int.reduceEq,reduceCtorEq,↓reduceIte]
    simp[out,outs,out1,pur]
  have c1:¬(4611686018427387903:Int)<(pn:Int):=by omega
  by_cases hac:ac≤pn
  case neg =>
    have hF:=bad (by simp[pktB,hac])
    have c2:(pn:Int)<(ac:Int):=by omega
    simp only[ir33,rs33,gl,hF,c1,c2,sub_zero,qdb,qai,List.length_cons,List.length_nil,Nat.reduceAdd,Nat.le_refl,Nat.reduceLeDiff,Nat.reduceLT,true_and,and_true,↓qar,↓qan,↓qao,↓qap,↓qam,↓qaj,↓qak,↓qaq,↓qal,idsEs,idsE,idss,killB,effE,stA,wBlk,deads,nwA,cntA,cnts,cnt,valO,blkO,inj,injs,blk,blks,outA,outR,outE,outEs,sids,List.nodup_cons,List.nodup_nil,List.not_mem_nil,List.mem_cons,or_false,false_or,not_or,↓evA,evB,evs,evp,mkB,repB,blen,↓retQ,res,resAll,resOne,kill,apartOk,exp,injV,injB,pur,purs,purR,pursR,List.reduceReplicate,Nat.reduceMul,Nat.reduceSub,Nat.reduceEqDiff,Int.reduceToNat,Int.reduceLE,Int.reduceLT,Int.reduceEq,reduceCtorEq,↓reduceIte]
    simp[out,outs,out1,pur]
  have c2:¬(pn:Int)<(ac:Int):=by omega
  have q1:preShort [.v (.int .u64 (pn:Int)),.v (.int .u64 (ac:Int))]:=⟨pn,ac,rfl,hac,hpn⟩
  have f1:F47 [.v (.int .u64 (pn:Int)),.v (.int .u64 (ac:Int))]=.one (.v (.int .i64 (shortN (pn-ac):Nat))):=rfl
  have hn:=shortN_le (pn-ac)
  obtain⟨n,hne⟩:∃n,shortN (pn-ac)=n:=⟨_,rfl⟩
  rw[hne]at f1 hn good
  have wl:Go.IntKind.i64.wrap ((n:Int)+(b.length:Int))=((n+b.length:Nat):Int):=by rw[wrap_i64];omega
  obtain⟨hpd,hp4,hpl⟩:=padF_ok (n:=n) hb hn.1
  have hpe:padF n b=if n+b.length<4 then b++List.replicate (4-n-b.length) 0 else b:=rfl
  have hP:pktG k sp (vxs T) (vxs R) pn n b=hidF k (hdN sp (vxs T) (vxs R) pn n b++sealF (sub k 0 16) (nonF k pn) (hdN sp (vxs T) (vxs R) pn n b) (padF n b)) (atF sp) false:=rfl
  have hHe:hdN sp (vxs T) (vxs R) pn n b=hdB sp (vxs T) (vxs R) n (n+((padF n b).length+16))++nmb (pn:Int) n n:=rfl
  obtain⟨p,hpp⟩:∃p,padF n b=p:=⟨_,rfl⟩
  rw[hpp]at hpd hp4 hpl hpe hP hHe
  have wp:Go.IntKind.i64.wrap ((p.length:Int)+16)=((p.length+16:Nat):Int):=by rw[wrap_i64];omega
  have q2:prePut [.v (.agg [.int .i64 sp,T,R]),.v (.int .u64 (pn:Int)),.v (.int .i64 (n:Int)),.v (.int .i64 ((p.length+16:Nat):Int))]:=⟨sp,T,R,pn,n,p.length+16,rfl,hT,hR,hn.1,hn.2,by omega⟩
  have f2:F48 [.v (.agg [.int .i64 sp,T,R]),.v (.int .u64 (pn:Int)),.v (.int .i64 (n:Int)),.v (.int .i64 ((p.length+16:Nat):Int))]=.many [.s .u8 (putX sp (vxs T) (vxs R) pn n (n+(p.length+16))),.v (.int .i64 (putE sp (vxs T) (vxs R)))]:=rfl
  have sb:=qdd b
  have sp':=qdd p
  have sk:sub k 0 44=k:=sub_zero hkl
  by_cases hok:hdOK sp (vxs T) (vxs R)=true
  case neg =>
    have hok':hdOK sp (vxs T) (vxs R)=false:=by simpa using hok
    have hF:=bad (by simp[pktB,hok'])
    rw[putX,putE,hok',if_neg (by decide),if_neg (by decide)]at f2
    by_cases h4:n+b.length<4
    · have c3:((n+b.length:Nat):Int)<4:=by omega
      rw[if_pos h4]at hpe
      have wz1:Go.IntKind.i64.wrap (4-(n:Int))=((4-n:Nat):Int):=by rw[wrap_i64];omega
      have wz2:Go.IntKind.i64.wrap (((4-n:Nat):Int)-(b.length:Int))=((4-n-b.length:Nat):Int):=by rw[wrap_i64];omega
      have hpl2:p.length=b.length+(4-n-b.length):=by rw[hpe];simp
      have hl':=hpl2.symm
      have hpe':=hpe.symm
      simp only[ir33,rs33,gl,hF,c1,c2,c3,hag,hs3,↓hpr3,q1,f1,wl,wz1,wz2,hl',hpe',wp,q2,f2,hpT,hpR,sk,hkl,sb,sp',sub_zero,qdb,qai,List.length_cons,List.length_nil,Nat.reduceAdd,Nat.le_refl,Nat.reduceLeDiff,Nat.reduceLT,true_and,and_true,↓qar,↓qan,↓qao,↓qap,↓qam,↓qaj,↓qak,↓qaq,↓qal,idsEs,idsE,idss,killB,effE,stA,wBlk,deads,nwA,cntA,cnts,cnt,valO,blkO,inj,injs,blk,blks,outA,outR,outE,outEs,sids,List.nodup_cons,List.nodup_nil,List.not_mem_nil,List.mem_cons,or_false,false_or,not_or,↓evA,evB,evs,evp,mkB,repB,blen,↓retQ,res,resAll,resOne,kill,apartOk,exp,injV,injB,pur,purs,purR,pursR,List.reduceReplicate,Nat.reduceMul,Nat.reduceSub,Nat.reduceEqDiff,Int.reduceToNat,Int.reduceLE,Int.reduceLT,Int.reduceEq,reduceCtorEq,↓reduceIte]
      repeat(refine And.intro (by omega) ?_)
      simp[out,outs,out1,pur]
    · have c3:¬((n+b.length:Nat):Int)<4:=by omega
      rw[if_neg h4]at hpe
      subst hpe
      simp only[ir33,rs33,gl,hF,c1,c2,c3,hag,hs3,↓hpr3,q1,f1,wl,wp,q2,f2,hpT,hpR,sk,hkl,sb,sub_zero,qdb,qai,List.length_cons,List.length_nil,Nat.reduceAdd,Nat.le_refl,Nat.reduceLeDiff,Nat.reduceLT,true_and,and_true,↓qar,↓qan,↓qao,↓qap,↓qam,↓qaj,↓qak,↓qaq,↓qal,idsEs,idsE,idss,killB,effE,stA,wBlk,deads,nwA,cntA,cnts,cnt,valO,blkO,inj,injs,blk,blks,outA,outR,outE,outEs,sids,List.nodup_cons,List.nodup_nil,List.not_mem_nil,List.mem_cons,or_false,false_or,not_or,↓evA,evB,evs,evp,mkB,repB,blen,↓retQ,res,resAll,resOne,kill,apartOk,exp,injV,injB,pur,purs,purR,pursR,List.reduceReplicate,Nat.reduceMul,Nat.reduceSub,Nat.reduceEqDiff,Int.reduceToNat,Int.reduceLE,Int.reduceLT,Int.reduceEq,reduceCtorEq,↓reduceIte]
      repeat(refine And.intro (by omega) ?_)
      simp[out,outs,out1,pur]
  have hF:=good (by simp[pktB,hok,hpn,hac])
  rw[putX,putE,hok,if_pos rfl,if_pos rfl,←hHe]at f2
  have hhl:(hdN sp (vxs T) (vxs R) pn n b).length=atF sp+n:=by rw[hHe,List.length_append,hdB_len hok,nmb_len]
  have hhd:Dig 256 (hdN sp (vxs T) (vxs R) pn n b):=by rw[hHe];exact(hdB_dig htd hrd _ _).append (nmb_dig _ _ _)
  have hA:=atF_le sp
  obtain⟨a,ha⟩:∃a,atF sp=a:=⟨_,rfl⟩
  obtain⟨H,hH⟩:∃H,hdN sp (vxs T) (vxs R) pn n b=H:=⟨_,rfl⟩
  rw[hH]at f2 hhl hhd hP
  rw[ha]at hhl hP hA
  have wat:Go.IntKind.i64.wrap (((a+n:Nat):Int)-(n:Int))=(a:Int):=by rw[wrap_i64];omega
  have q3:preNon [.v (.ints .u8 k),.v (.int .u64 (pn:Int))]:=⟨k,pn,rfl,hk⟩
  have f3:F50 [.v (.ints .u8 k),.v (.int .u64 (pn:Int))]=.one (.v (.ints .u8 (nonF k pn))):=rfl
  have hN:B12 (nonF k pn):=nonS_ok hk 8
  obtain⟨N,hNe⟩:∃N,nonF k pn=N:=⟨_,rfl⟩
  rw[hNe]at f3 hN hP
  have hK:B16 (sub k 0 16):=⟨by simp[sub,hkl],sub_dig' hk.2⟩
  obtain⟨ky,hky⟩:∃ky,sub k 0 16=ky:=⟨_,rfl⟩
  rw[hky]at hK hP
  have q4:preSl [.v (.ints .u8 ky),.v (.ints .u8 N),.s .u8 H,.s .u8 p]:=⟨_,_,_,_,rfl,hK,hN,hhd,by omega,hpd,by omega⟩
  have f4:F49 [.v (.ints .u8 ky),.v (.ints .u8 N),.s .u8 H,.s .u8 p]=.one (.s .u8 (sealF ky N H p)):=rfl
  have hSl:=seal_len ky N H p
  have hSd:=seal_dig ky N H p
  obtain⟨S,hS⟩:∃S,sealF ky N H p=S:=⟨_,rfl⟩
  rw[hS]at f4 hSl hSd hP
  have hQl:(H++S).length=a+n+(p.length+16):=by rw[List.length_append,hhl,hSl]
  have q5:preHid [.v (.ints .u8 k),.w .u8 (H++S),.v (.int .i64 (a:Int)),.v (.bool false)]:=⟨k,H++S,a,false,rfl,hk,hhd.append hSd,by omega,by omega,by omega⟩
  have f5:F51 [.v (.ints .u8 k),.w .u8 (H++S),.v (.int .i64 (a:Int)),.v (.bool false)]=([[.v (.ints .u8 (hidF k (H++S) a false))]],.one (.v (.int .i64 (hcnt k (H++S) a false:Int)))):=rfl
  have hRl:(hidF k (H++S) a false).length=(H++S).length:=by
    rw[hidF,hidS_len,hfst,List.length_set]
  rw[←hP]at f5 hRl
  obtain⟨X,hX⟩:∃X,pktG k sp (vxs T) (vxs R) pn n b=X:=⟨_,rfl⟩
  rw[hX]at f5 hRl hF
  rw[hQl]at hRl
  have hkyl:=hK.1
  have hNl:=hN.1
  have sH:sub H 0 (a+n)=H:=sub_zero hhl
  have sS:sub S 0 (p.length+16)=S:=sub_zero hSl
  have sX:sub X 0 (a+n+(p.length+16))=X:=sub_zero hRl
  by_cases h4:n+b.length<4
  · have c3:((n+b.length:Nat):Int)<4:=by omega
    rw[if_pos h4]at hpe
    have wz1:Go.IntKind.i64.wrap (4-(n:Int))=((4-n:Nat):Int):=by rw[wrap_i64];omega
    have wz2:Go.IntKind.i64.wrap (((4-n:Nat):Int)-(b.length:Int))=((4-n-b.length:Nat):Int):=by rw[wrap_i64];omega
    have hpl2:p.length=b.length+(4-n-b.length):=by rw[hpe];simp
    have hl':=hpl2.symm
    have hpe':=hpe.symm
    simp only[ir33,rs33,gl,hF,c1,c2,c3,hag,hs3,↓hpr3,q1,f1,wl,wz1,wz2,hl',hpe',wp,q2,f2,hpT,hpR,hhl,wat,q3,f3,hNl,hky,hkyl,q4,f4,hSl,hQl,sH,sb,sp',sS,sk,hkl,q5,f5,hRl,sub_zero,qdb,qai,List.length_cons,List.length_nil,Nat.reduceAdd,Nat.le_refl,Nat.reduceLeDiff,Nat.reduceLT,true_and,and_true,↓qar,↓qan,↓qao,↓qap,↓qam,↓qaj,↓qak,↓qaq,↓qal,idsEs,idsE,idss,killB,effE,stA,wBlk,deads,nwA,cntA,cnts,cnt,valO,blkO,inj,injs,blk,blks,outA,outR,outE,outEs,sids,List.nodup_cons,List.nodup_nil,List.not_mem_nil,List.mem_cons,or_false,false_or,not_or,↓evA,evB,evs,evp,mkB,repB,blen,↓retQ,res,resAll,resOne,kill,apartOk,exp,injV,injB,pur,purs,purR,pursR,List.reduceReplicate,Nat.reduceMul,Nat.reduceSub,Nat.reduceEqDiff,Int.reduceToNat,Int.reduceLE,Int.reduceLT,Int.reduceEq,reduceCtorEq,↓reduceIte]
    repeat(refine And.intro (by omega) ?_)
    simp only[out,outs,out1,pur,hRl,sX,Nat.zero_add,purs,qcz,qc0,List.not_mem_nil,not_false_eq_true,true_and,and_true,Nat.reduceLeDiff,Nat.le_refl]
  · have c3:¬((n+b.length:Nat):Int)<4:=by omega
    rw[if_neg h4]at hpe
    subst hpe
    simp only[ir33,rs33,gl,hF,c1,c2,c3,hag,hs3,↓hpr3,q1,f1,wl,wp,q2,f2,hpT,hpR,hhl,wat,q3,f3,hNl,hky,hkyl,q4,f4,hSl,hQl,sH,sb,sS,sk,hkl,q5,f5,hRl,sub_zero,qdb,qai,List.length_cons,List.length_nil,Nat.reduceAdd,Nat.le_refl,Nat.reduceLeDiff,Nat.reduceLT,true_and,and_true,↓qar,↓qan,↓qao,↓qap,↓qam,↓qaj,↓qak,↓qaq,↓qal,idsEs,idsE,idss,killB,effE,stA,wBlk,deads,nwA,cntA,cnts,cnt,valO,blkO,inj,injs,blk,blks,outA,outR,outE,outEs,sids,List.nodup_cons,List.nodup_nil,List.not_mem_nil,List.mem_cons,or_false,false_or,not_or,↓evA,evB,evs,evp,mkB,repB,blen,↓retQ,res,resAll,resOne,kill,apartOk,exp,injV,injB,pur,purs,purR,pursR,List.reduceReplicate,Nat.reduceMul,Nat.reduceSub,Nat.reduceEqDiff,Int.reduceToNat,Int.reduceLE,Int.reduceLT,Int.reduceEq,reduceCtorEq,↓reduceIte]
    repeat(refine And.intro (by omega) ?_)
    simp only[out,outs,out1,pur,hRl,sX,Nat.zero_add,purs,qcz,qc0,List.not_mem_nil,not_false_eq_true,true_and,and_true,Nat.reduceLeDiff,Nat.le_refl]
end Am
set_option maxRecDepth 20000
namespace Am
open Go.Proofs
/-! ### A packet that was sealed is opened -/
theorem nmb_get (pn:Nat) (n:Nat) (hn:n≤4) (hpn:pn<4611686018427387904):∀j,j≤n→∀i,i<j→getI (nmb (pn:Int) n j) i=((pn/2^(8*(n-1-i))%256:Nat):Int)
  | 0,_,i,hi=>by omega
  | j+1,hj,i,hi=>by
    have hl:=nmb_len (pn:Int) n j
    rw[nmb]
    by_cases h:i<j
    · rw[getI_app (by omega),nmb_get pn n hn hpn j (by omega) i h]
    · obtain rfl:i=j:=by omega
      have e:getI (nmb (pn:Int) n i++[Go.IntKind.u8.wrap (iShr .u64 (pn:Int) ((8*(n-1-i):Nat):Int))]) i=Go.IntKind.u8.wrap (iShr .u64 (pn:Int) ((8*(n-1-i):Nat):Int)):=by
        simp only[getI,List.getD_eq_getElem?_getD]
        rw[List.getElem?_append_right (by omega),hl,Nat.sub_self]
        rfl
      rw[e]
      unfold iShr
      rw[Int.toNat_natCast,show Go.IntKind.u64.bits=64 from rfl,Nat.min_eq_left (by omega),fdiv_nat,wrap_u8]
      omega
theorem short_lt {d:Nat} (h:2*d+1<4294967296):2*d+1<pw8 (shortN d):=by
  unfold shortN
  split
  · rename_i h1;simpa[pw8]using h1
  split
  · rename_i h1;simpa[pw8]using h1
  split
  · rename_i h1;simpa[pw8]using h1
  · simpa[pw8]using h
def fbs (sp:Int) (n:Nat):Int:=if sp=2 then fb n else fbl sp n
theorem fbs_facts {sp:Int} (h0:0≤sp) (h3:sp<3):∀n:Nat,1≤n→n≤4→hnum (fbs sp n)=n∧bAnd .u8 (fbs sp n) (if bAnd .u8 (fbs sp n) 128=0 then 28 else 12)=0:=fun n h1 h4=>by
  rcases (by omega:sp=0∨sp=1∨sp=2)with rfl | rfl | rfl <;>
  rcases (by omega:n=1∨n=2∨n=3∨n=4)with rfl | rfl | rfl | rfl<;>decide +kernel
theorem hdB_0 (sp:Int) (to fr:List Int) (n m:Nat) (S:List Int):getI (hdB sp to fr n m++S) 0=fbs sp n:=by
  unfold hdB fbs
  split
  · rfl
  split<;>rfl
theorem pktG_back {k to fr:List Int} {sp:Int} {pn ac x:Nat} {b more:List Int} (hk:K44 k) (hok:hdOK sp to fr=true) (htd:Dig 256 to) (hfd:Dig 256 fr) (hac:ac≤x) (hx:x≤pn) (hpn:pn<4611686018427387904) (hd:2*(pn-ac)+1<4294967296) (hb:Dig 256 b) {e:Nat}
    (he:(pktG k sp to fr pn (shortN (pn-ac)) b).length=e) {Y:List Int} (hY:pktG k sp to fr pn (shortN (pn-ac)) b++more=Y) :
    atF sp+20≤e∧e≤46+b.length+3∧rst (opD k Y (atF sp) e)=0∧opP k Y (atF sp) e x=pn ∧
    opnB (sub k 0 16) (nonF k pn) (opH k Y (atF sp) e) (opT k Y (atF sp) e)=true ∧
    opnS (sub k 0 16) (nonF k pn) (opH k Y (atF sp) e) (opT k Y (atF sp) e)=padF (shortN (pn-ac)) b:=by
  have hn:=shortN_le (pn-ac)
  have hlt:=short_lt hd
  have hAl:=atF_le sp
  obtain⟨_,o2,o3,_⟩:=hdOK_iff.1 hok
  obtain⟨n,hne⟩:∃n,shortN (pn-ac)=n:=⟨_,rfl⟩
  rw[hne]at hn hlt he hY ⊢
  have hP:pktG k sp to fr pn n b=hidF k (hdN sp to fr pn n b++sealF (sub k 0 16) (nonF k pn) (hdN sp to fr pn n b) (padF n b)) (atF sp) false:=rfl
  obtain⟨hpd,hp4,hpl⟩:=padF_ok (n:=n) hb hn.1
  have hHe:hdN sp to fr pn n b=hdB sp to fr n (n+((padF n b).length+16))++nmb (pn:Int) n n:=rfl
  have hBl:=hdB_len hok n (n+((padF n b).length+16))
  have hB0:=hdB_0 sp to fr n (n+((padF n b).length+16))
  have hBd:=hdB_dig (sp:=sp) htd hfd n (n+((padF n b).length+16))
  have hK:B16 (sub k 0 16):=⟨by simp[sub,hk.1],sub_dig' hk.2⟩
  have hN:B12 (nonF k pn):=nonS_ok hk 8
  have ho:=opn_seal (sub k 0 16) (nonF k pn) (hdN sp to fr pn n b) (padF n b) hK hN hpd
  have hSl:=seal_len (sub k 0 16) (nonF k pn) (hdN sp to fr pn n b) (padF n b)
  have hSd:=seal_dig (sub k 0 16) (nonF k pn) (hdN sp to fr pn n b) (padF n b)
  obtain⟨p,hpe⟩:∃p,padF n b=p:=⟨_,rfl⟩
  rw[hpe]at hpd hp4 hpl hSl hSd ho hP hHe hBl hBd ⊢
  simp only[hpe]at hB0
  obtain⟨B,hB⟩:∃B,hdB sp to fr n (n+(p.length+16))=B:=⟨_,rfl⟩
  rw[hB]at hHe hBl hBd
  simp only[hB]at hB0
  obtain⟨a,ha⟩:∃a,atF sp=a:=⟨_,rfl⟩
  rw[ha]at hBl hP hAl ⊢
  have hhl:(hdN sp to fr pn n b).length=a+n:=by rw[hHe,List.length_append,hBl,nmb_len]
  have hhd:Dig 256 (hdN sp to fr pn n b):=by rw[hHe];exact hBd.append (nmb_dig _ _ _)
  have hh0:∀S:List Int,getI (hdN sp to fr pn n b++S) 0=fbs sp n:=fun S=>by rw[hHe,List.append_assoc,hB0]
  have hhi:∀(S:List Int) (i:Nat),i<n→getI (hdN sp to fr pn n b++S) (a+i)=((pn/2^(8*(n-1-i))%256:Nat):Int):=fun S i hi=>by
    rw[getI_app (by omega),←nmb_get pn n hn.2 hpn n (Nat.le_refl n) i hi,hHe]
    simp only[getI,List.getD_eq_getElem?_getD]
    rw[List.getElem?_append_right (by omega),hBl,Nat.add_sub_cancel_left]
  obtain⟨H,hH⟩:∃H,hdN sp to fr pn n b=H:=⟨_,rfl⟩
  rw[hH]at hhl hhd hSl hSd ho hP
  simp only[hH]at hh0 hhi
  obtain⟨S,hS⟩:∃S,sealF (sub k 0 16) (nonF k pn) H p=S:=⟨_,rfl⟩
  rw[hS]at hSl hSd ho hP
  have h0:=hh0 S
  have hi:=hhi S
  have hQd:Dig 256 (H++S):=hhd.append hSd
  have hQl:(H++S).length=a+n+(p.length+16):=by rw[List.length_append,hhl,hSl]
  have hsH:sub (H++S) 0 (a+n)=H:=by simp[sub,hhl]
  have hsS:sub (H++S) (a+n) (p.length+16)=S:=by
    simp only[sub,List.drop_append,hhl,Nat.sub_self,List.drop_zero]
    rw[List.drop_of_length_le (by omega),List.nil_append]
    exact List.take_of_length_le (by omega)
  obtain⟨Q,hQ⟩:∃Q,H++S=Q:=⟨_,rfl⟩
  rw[hQ]at hP h0 hi hQd hQl hsH hsS
  have hinv:=hid_inv hk hQd (a:=a) (by omega) (by omega)
  have hRl:=hidF_len k Q a false
  have hcn:hcnt k Q a false=hnum (getI Q 0):=rfl
  rw[hP]at he hY
  have hel:e=a+n+(p.length+16):=by rw[←he,hRl,hQl]
  obtain⟨R,hR⟩:∃R,hidF k Q a false=R:=⟨_,rfl⟩
  rw[hR]at hRl hinv he hY
  have hsub:sub Y 0 e=R:=by rw[←hY,←he];simp[sub]
  have hD:opD k Y a e=Q:=by rw[opD,hsub];exact hinv.1
  obtain⟨g1,g2⟩:=fbs_facts o2 o3 n hn.1 hn.2
  have hNn:opN k Y a e=n:=by rw[opN,hsub,hinv.2,hcn,h0,g1]
  have hHe2:opH k Y a e=H:=by rw[opH,hD,hNn,hsH]
  have hTe:opT k Y a e=S:=by rw[opT,hD,hNn,show e-(a+n)=p.length+16 by omega,hsS]
  refine⟨by omega,by omega,?_,?_,?_,?_⟩
  · rw[hD,rst,h0];exact g2
  · rw[opP,hD,hNn,sh_back hn.2 hi n (Nat.le_refl n),Nat.sub_self,Nat.mul_zero,Nat.pow_zero,Nat.div_one]
    exact full_back hx hpn hn.1 hn.2 (by omega)
  · rw[hHe2,hTe];exact ho.1
  · rw[hHe2,hTe];exact ho.2
end Am
