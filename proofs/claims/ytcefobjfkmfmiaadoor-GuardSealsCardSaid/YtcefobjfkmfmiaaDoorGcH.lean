/-
Working texts: contracts of functions, and the numbers behind them.
-/
import Derived.Test.YtcefobjfkmfmiaaDoorGdA
import Derived.Test.YtcefobjfkmfmiaaDoorAeR
import Derived.Test.YtcefobjfkmfmiaaDoorIrGcE
set_option linter.unusedSimpArgs false
set_option linter.unusedVariables false
set_option linter.unusedSectionVars false
set_option maxRecDepth 20000
namespace Am
open Go.Proofs
/-! ### The product of two blocks, bit by bit -/
def nb (x:Int) (i:Nat):Bool:=x.toNat.testBit i
def Wd (x:Int):Prop:=0≤x∧x<18446744073709551616
theorem Wd.nat {x:Int} (h:Wd x):∃n:Nat,x=n∧n<2^64:=by
  obtain⟨n,rfl⟩:=Int.eq_ofNat_of_zero_le h.1
  exact⟨n,rfl,by have:=h.2;omega⟩
theorem nb_nat (n i:Nat):nb (n:Int) i=n.testBit i:=by simp[nb]
theorem nb_hi {x:Int} (h:Wd x) {i:Nat} (hi:64≤i):nb x i=false:=by
  obtain⟨n,rfl,hn⟩:=h.nat
  rw[nb_nat]
  exact Nat.testBit_lt_two_pow (Nat.lt_of_lt_of_le hn (Nat.pow_le_pow_right (by decide) hi))
theorem nb_hi8 {x:Int} (h:Bt x) {i:Nat} (hi:8≤i):nb x i=false:=by
  obtain⟨n,rfl,hn⟩:=h.nat
  rw[nb_nat]
  exact Nat.testBit_lt_two_pow (Nat.lt_of_lt_of_le (show n<2^8 from hn) (Nat.pow_le_pow_right (by decide) hi))
theorem wd_ext {x y:Int} (hx:Wd x) (hy:Wd y) (h:∀i,i<64→nb x i=nb y i):x=y:=by
  have:∀i,nb x i=nb y i:=fun i=>by
    by_cases hi:i<64
    · exact h i hi
    · rw[nb_hi hx (by omega),nb_hi hy (by omega)]
  obtain⟨n,rfl,hn⟩:=hx.nat
  obtain⟨m,rfl,hm⟩:=hy.nat
  congr 1
  refine Nat.eq_of_testBit_eq fun i=>?_
  have:=this i
  rwa [nb_nat,nb_nat]at this
theorem wd_xor {x y:Int} (hx:Wd x) (hy:Wd y):Wd (bXor .u64 x y)∧∀i,nb (bXor .u64 x y) i=(nb x i ^^ nb y i):=by
  obtain⟨n,rfl,hn⟩:=hx.nat
  obtain⟨m,rfl,hm⟩:=hy.nat
  have:=Nat.xor_lt_two_pow hn hm
  rw[x64 hn hm]
  exact⟨⟨by omega,by omega⟩,fun i=>by rw[nb_nat,nb_nat,nb_nat,Nat.testBit_xor]⟩
theorem wd_or {x y:Int} (hx:Wd x) (hy:Wd y):Wd (bOr .u64 x y)∧∀i,nb (bOr .u64 x y) i=(nb x i||nb y i):=by
  obtain⟨n,rfl,hn⟩:=hx.nat
  obtain⟨m,rfl,hm⟩:=hy.nat
  have:=Nat.or_lt_two_pow hn hm
  rw[o64 hn hm]
  exact⟨⟨by omega,by omega⟩,fun i=>by rw[nb_nat,nb_nat,nb_nat,Nat.testBit_or]⟩
theorem wd_and {x y:Int} (hx:Wd x) (hy:Wd y):Wd (bAnd .u64 x y)∧∀i,nb (bAnd .u64 x y) i=(nb x i&&nb y i):=by
  obtain⟨n,rfl,hn⟩:=hx.nat
  obtain⟨m,rfl,hm⟩:=hy.nat
  have:=Nat.and_lt_two_pow n hm
  rw[a64 hn hm]
  exact⟨⟨by omega,by omega⟩,fun i=>by rw[nb_nat,nb_nat,nb_nat,Nat.testBit_and]⟩
theorem wd_shr {x:Int} (hx:Wd x) {s:Nat} (hs:s<64):Wd (iShr .u64 x (s:Int))∧∀i,nb (iShr .u64 x (s:Int)) i=nb x (i+s):=by
  obtain⟨n,rfl,hn⟩:=hx.nat
  have e:iShr .u64 (n:Int) (s:Int)=((n/2^s:Nat):Int):=by
    unfold iShr
    rw[Int.toNat_natCast,show Go.IntKind.u64.bits=64 from rfl,Nat.min_eq_left (by omega),fdiv_nat]
  have h1:n/2^s≤n:=Nat.div_le_self _ _
  have h2:∀i,(n/2^s).testBit i=n.testBit (i+s):=fun i=>Nat.testBit_div_two_pow ..
  rw[e]
  generalize n/2^s=q at h1 h2
  exact⟨⟨by omega,by omega⟩,fun i=>by rw[nb_nat,nb_nat,h2]⟩
theorem wd_shl {x:Int} (hx:Wd x) {s:Nat} (hs:s<64):Wd (iShl .u64 x (s:Int))∧∀i,nb (iShl .u64 x (s:Int)) i=(decide (i<64)&&(decide (s≤i)&&nb x (i-s))):=by
  obtain⟨n,rfl,hn⟩:=hx.nat
  have e:iShl .u64 (n:Int) (s:Int)=((n*2^s%2^64:Nat):Int):=by
    unfold iShl
    rw[Int.toNat_natCast,show Go.IntKind.u64.bits=64 from rfl,Nat.min_eq_left (by omega),wrap_u64]
    simp
  have h1:n*2^s%2^64<2^64:=Nat.mod_lt _ (by decide)
  rw[e]
  refine⟨⟨by omega,by omega⟩,fun i=>?_⟩
  rw[nb_nat,nb_nat,Nat.testBit_mod_two_pow,Nat.testBit_mul_two_pow]
theorem bt_xor {x y:Int} (hx:Bt x) (hy:Bt y) (i:Nat):nb (bXor .u8 x y) i=(nb x i ^^ nb y i):=by
  obtain⟨n,rfl,hn⟩:=hx.nat
  obtain⟨m,rfl,hm⟩:=hy.nat
  rw[xn hn hm,nb_nat,nb_nat,nb_nat,Nat.testBit_xor]
theorem bt_or {x y:Int} (hx:Bt x) (hy:Bt y) (i:Nat):nb (bOr .u8 x y) i=(nb x i||nb y i):=by
  obtain⟨n,rfl,hn⟩:=hx.nat
  obtain⟨m,rfl,hm⟩:=hy.nat
  rw[orn hn hm,nb_nat,nb_nat,nb_nat,Nat.testBit_or]
theorem bt_shr {x:Int} (hx:Bt x) {s:Nat} (hs:s<8):Bt (iShr .u8 x (s:Int))∧∀i,nb (iShr .u8 x (s:Int)) i=nb x (i+s):=by
  obtain⟨n,rfl,hn⟩:=hx.nat
  have e:iShr .u8 (n:Int) (s:Int)=((n/2^s:Nat):Int):=by
    unfold iShr
    rw[Int.toNat_natCast,show Go.IntKind.u8.bits=8 from rfl,Nat.min_eq_left (by omega),fdiv_nat]
  have h1:n/2^s≤n:=Nat.div_le_self _ _
  have h2:∀i,(n/2^s).testBit i=n.testBit (i+s):=fun i=>Nat.testBit_div_two_pow ..
  rw[e]
  generalize n/2^s=q at h1 h2
  exact⟨⟨by omega,by omega⟩,fun i=>by rw[nb_nat,nb_nat,h2]⟩
/-- The lowest bit, as a number. -/
theorem bt_low {x:Int} (hx:Bt x):bAnd .u8 x 1=if nb x 0 then 1 else 0:=by
  obtain⟨n,rfl,hn⟩:=hx.nat
  rw[show (1:Int)=((1:Nat):Int)from rfl,an8 hn (by decide),nb_nat,Nat.and_one_is_mod,Nat.testBit_zero]
  rcases Nat.mod_two_eq_zero_or_one n with h | h<;>simp[h]
theorem wd_low {x:Int} (hx:Wd x):bAnd .u64 x 1=if nb x 0 then 1 else 0:=by
  obtain⟨n,rfl,hn⟩:=hx.nat
  rw[show (1:Int)=((1:Nat):Int)from rfl,a64 hn (by decide),nb_nat,Nat.and_one_is_mod,Nat.testBit_zero]
  rcases Nat.mod_two_eq_zero_or_one n with h | h<;>simp[h]
/-- What a mask of a bit leaves. -/
theorem wd_mask {x:Int} (hx:Wd x) (c:Bool):Wd (bAnd .u64 x (Go.IntKind.u64.wrap (0-(if c then 1 else 0))))∧∀i,nb (bAnd .u64 x (Go.IntKind.u64.wrap (0-(if c then 1 else 0)))) i=(c&&nb x i):=by
  cases c
  · have e:Go.IntKind.u64.wrap (0-(if false=true then 1 else 0))=0:=by rw[wrap_u64];rfl
    rw[e]
    have h:=wd_and hx (show Wd 0 from ⟨by decide,by decide⟩)
    refine⟨h.1,fun i=>?_⟩
    rw[h.2,show nb 0 i=false by simp[nb]]
    simp
  · have e:Go.IntKind.u64.wrap (0-(if true=true then 1 else 0))=((2^64-1:Nat):Int):=by rw[wrap_u64];rfl
    rw[e]
    have h:=wd_and hx (show Wd ((2^64-1:Nat):Int)from ⟨by decide,by decide⟩)
    refine⟨h.1,fun i=>?_⟩
    rw[h.2,nb_nat,Nat.testBit_two_pow_sub_one]
    by_cases hi:i<64
    · simp[hi]
    · rw[nb_hi hx (by omega)];simp
end Am
set_option maxRecDepth 20000
namespace Am
open Go.Proofs
/-! ### The reference's counter -/
def cpS (n:List Int) (s:List Int) (i:Nat):List Int:=s.set i (getI n i)
def crF (n:List Int) (m:Nat):List Int:=((itr (cpS n) z16 12).set 14 (Go.IntKind.u8.wrap ((m/256:Nat):Int))).set 15 (Go.IntKind.u8.wrap ((m%256:Nat):Int))
def preCr (ds:List D):Prop:=∃(n:List Int) (m:Nat),ds=[.v (.ints .u8 n),.v (.int .i64 (m:Int))]∧B12 n∧m<65536
def F71:List D→Out
  | [.v (.ints _ n),.v (.int _ m)]=>.one (.v (.ints .u8 (crF n m.toNat)))
  | _=>bad
def s71:Summ:=sData [.v,.v] preCr F71
theorem cpS_ok {n:List Int} (h:B12 n) (m:Nat):B16 (itr (cpS n) z16 m) :=
  itr_inv (fun _ (s:List Int)=>B16 s) z16_ok (fun j s hs=>⟨by simp[cpS,hs.1],hs.2.set _ (h.2.all (by decide) j).1 (h.2.all (by decide) j).2⟩) m
theorem crF_ok {n:List Int} (h:B12 n) (m:Nat):B16 (crF n m) :=
  ⟨by simp[crF,(cpS_ok h 12).1],((cpS_ok h 12).2.set _ (w8_bd _).1 (w8_bd _).2).set _ (w8_bd _).1 (w8_bd _).2⟩
set_option maxHeartbeats 2000000 in
theorem ok71 {g:List Blk} [Ge gl g]:SumOK Tryd.prog g 71 s71∧SumAbs s71:=by
  refine fsumA (l:=[]) mixed gl_plain rfl Tryd.func71 comp71 compR71 nt71 (by simp) fun ds ⟨n,m,hd,hn,hm⟩ hA=>?_
  subst hd
  have hnl:=hn.1
  have hF:F71 [.v (.ints .u8 n),.v (.int .i64 (m:Int))]=.one (.v (.ints .u8 (crF n m))):=by
    show Out.one (.v (.ints .u8 (crF n ((m:Int).toNat))))=_
    rw[Int.toNat_natCast]
  have sn:sub n 0 12=n:=sub_zero hnl
  simp only[ir71,rs71,gl,hF,sn,hnl,sub_zero,qdb,qai,List.length_cons,List.length_nil,Nat.reduceAdd,Nat.le_refl,Nat.reduceLeDiff,Nat.reduceLT,true_and,and_true,↓evA,evB,evs,evp,mkB,repB,blen,↓retQ,res,resAll,resOne,kill,apartOk,exp,injV,injB,pur,purs,purR,pursR,List.reduceReplicate,Nat.reduceMul,Nat.reduceSub,Nat.reduceEqDiff,Int.reduceToNat,Int.reduceLE,Int.reduceLT,Int.reduceEq,reduceCtorEq,↓reduceIte]
  refine awp_loopA (n:=25) hA [1,2,4,5,6] (by decide +kernel) (fun i:Nat=>[.int .i64 (m:Int),.ptr 4 0,.ptr 5 0,.ptr 6 0,.int .i64 i])
    (fun i=>[.ints true .u64 roots,.dead,.dead,.dead,.ints false .u8 n,.ints false .u8 [0,0,0,0,0,0,0,0,0,0,0,0,0,0,0,0],.ints false .u8 (itr (cpS n) z16 i)]) (fun i=>i≤12) (fun i=>12-i) 0 ?_ (by omega) ?_
  · refine Hd.same ?_
    simp only[itr,z16,List.map_cons,List.map_nil,Nat.reduceLT,nth_asl,look_cons,look_nil,reduceCtorEq,↓reduceIte,Nat.reduceEqDiff,Int.cast_ofNat_Int,List.append_nil,List.cons_append,List.nil_append,asl_length,and_true,true_and,Nat.zero_add,Nat.add_zero,Nat.reduceAdd,qcz,qc0,List.reduceReplicate]
  intro i hi K hK
  have hB:=cpS_ok hn i
  by_cases hlt:i<12
  · have c1:(i:Int)<12:=by omega
    have wi:Go.IntKind.i64.wrap ((i:Int)+1)=((i+1:Nat):Int):=by rw[wrap_i64];omega
    have hx:itr (cpS n) z16 (i+1)=cpS n (itr (cpS n) z16 i) i:=rfl
    obtain⟨s,hs⟩:∃s,itr (cpS n) z16 i=s:=⟨_,rfl⟩
    rw[hs]at hx hB ⊢
    have hl:=hB.1
    have b2:i<16:=by omega
    simp only[c1,wi,hl,hnl,hlt,b2,sub_zero,qdb,qai,List.length_cons,List.length_nil,Nat.reduceAdd,Nat.le_refl,Nat.reduceLeDiff,Nat.reduceLT,true_and,and_true,↓evA,evB,evs,evp,mkB,repB,blen,↓retQ,res,resAll,resOne,kill,apartOk,exp,injV,injB,pur,purs,purR,pursR,List.reduceReplicate,Nat.reduceMul,Nat.reduceSub,Nat.reduceEqDiff,Int.reduceToNat,Int.reduceLE,Int.reduceLT,Int.reduceEq,reduceCtorEq,↓reduceIte]
    repeat(refine And.intro (by omega) ?_)
    refine⟨i+1,hK _ (by omega) (by omega),Hd.same ?_⟩
    simp only[hx,cpS,List.map_cons,List.map_nil,Nat.reduceLT,nth_asl,look_cons,look_nil,reduceCtorEq,↓reduceIte,Nat.reduceEqDiff,Int.cast_ofNat_Int,List.append_nil,List.cons_append,List.nil_append,asl_length,and_true,true_and,Nat.zero_add,Nat.add_zero,Nat.reduceAdd,qcz,qc0,List.reduceReplicate]
  obtain rfl:i=12:=by omega
  have c1:¬((12:Nat):Int)<12:=by omega
  have hR:crF n m=((itr (cpS n) z16 12).set 14 (Go.IntKind.u8.wrap ((m/256:Nat):Int))).set 15 (Go.IntKind.u8.wrap ((m%256:Nat):Int)):=rfl
  have hRB:=crF_ok hn m
  obtain⟨s,hs⟩:∃s,itr (cpS n) z16 12=s:=⟨_,rfl⟩
  rw[hs]at hR hB ⊢
  have hl:=hB.1
  have n256:¬(256:Int)=0:=by decide
  have wd:Go.IntKind.i64.wrap ((m:Int).tdiv 256)=((m/256:Nat):Int):=by
    rw[Int.tdiv_eq_ediv_of_nonneg (by omega),wrap_i64];omega
  have wm:(m:Int).tmod 256=((m%256:Nat):Int):=tmod_nat (k:=256)
  obtain⟨R,hRR⟩:∃R,crF n m=R:=⟨_,rfl⟩
  rw[hRR]at hR hRB ⊢
  have hRl:=hRB.1
  have sR:sub R 0 16=R:=sub_zero hRl
  have pR:spl [0,0,0,0,0,0,0,0,0,0,0,0,0,0,0,0] 0 R=R:=qdb (by simp[hRl])
  simp only[c1,n256,wd,wm,hl,←hR,sR,pR,List.length_set,sub_zero,qdb,qai,List.length_cons,List.length_nil,Nat.reduceAdd,Nat.le_refl,Nat.reduceLeDiff,Nat.reduceLT,true_and,and_true,↓evA,evB,evs,evp,mkB,repB,blen,↓retQ,res,resAll,resOne,kill,apartOk,exp,injV,injB,pur,purs,purR,pursR,List.reduceReplicate,Nat.reduceMul,Nat.reduceSub,Nat.reduceEqDiff,Int.reduceToNat,Int.reduceLE,Int.reduceLT,Int.reduceEq,reduceCtorEq,↓reduceIte]
  repeat(refine And.intro (by omega) ?_)
  simp only[out,outs,out1,pur,and_self]
/-! ### The reference's product -/
def bkB (a:List Int) (i:Nat):Int:=bAnd .u8 (iShr .u8 (getI a (i/8)) ((7-i%8:Nat):Int)) 1
def shS (r:List Int×Int) (k:Nat):List Int×Int:=(r.1.set k (bOr .u8 (iShr .u8 (getI r.1 k) 1) (iShl .u8 r.2 7)),bAnd .u8 (getI r.1 k) 1)
def shI (b:List Int) (n:Nat):List Int×Int:=itr shS (b,0) n
def shF (b:List Int):List Int:=if (shI b 16).2=1 then (shI b 16).1.set 0 (bXor .u8 (getI (shI b 16).1 0) 225)else (shI b 16).1
def bkS (a:List Int) (s:List Int×List Int) (i:Nat):List Int×List Int:=(if bkB a i=1 then jn s.1 s.2 16 else s.1,shF s.2)
def bkI (a b:List Int) (n:Nat):List Int×List Int:=itr (bkS a) (z16,b) n
def bkF (a b:List Int):List Int:=(bkI a b 128).1
theorem shI_len {b:List Int} (h:b.length=16) (n:Nat):(shI b n).1.length=16 :=
  itr_inv (fun _ (s:List Int×Int)=>s.1.length=16) h (fun n s hs=>by simp[shS,hs]) n
theorem shF_len {b:List Int} (h:b.length=16):(shF b).length=16:=by
  unfold shF;split
  · rw[List.length_set];exact shI_len h 16
  · exact shI_len h 16
theorem bkI_len {a b:List Int} (h:b.length=16) (n:Nat):(bkI a b n).1.length=16∧(bkI a b n).2.length=16 :=
  itr_inv (fun _ (s:List Int×List Int)=>s.1.length=16∧s.2.length=16) ⟨rfl,h⟩ (fun n s hs=>⟨by unfold bkS;simp only;split<;>simp[jn_len,hs.1],shF_len hs.2⟩) n
def preBk (ds:List D):Prop:=∃a b:List Int,ds=[.v (.ints .u8 a),.v (.ints .u8 b)]∧a.length=16∧b.length=16
def F80:List D→Out
  | [.v (.ints _ a),.v (.ints _ b)]=>.one (.v (.ints .u8 (bkF a b)))
  | _=>bad
def s80:Summ:=sData [.v,.v] preBk F80
set_option maxHeartbeats 4000000 in
theorem ok80 {g:List Blk} [Ge gl g]:SumOK Tryd.prog g 80 s80∧SumAbs s80:=by
  refine fsumA (l:=[]) mixed gl_plain rfl Tryd.func80 comp80 compR80 nt80 (by simp) fun ds ⟨a,b,hd,hal,hbl⟩ hA=>?_
  subst hd
  have hF:F80 [.v (.ints .u8 a),.v (.ints .u8 b)]=.one (.v (.ints .u8 (bkF a b))):=rfl
  have sa:sub a 0 16=a:=sub_zero hal
  have sb:sub b 0 16=b:=sub_zero hbl
  simp only[ir80,rs80,gl,hF,sa,sb,hal,hbl,sub_zero,qdb,qai,List.length_cons,List.length_nil,Nat.reduceAdd,Nat.le_refl,Nat.reduceLeDiff,Nat.reduceLT,true_and,and_true,↓evA,evB,evs,evp,mkB,repB,blen,↓retQ,res,resAll,resOne,kill,apartOk,exp,injV,injB,pur,purs,purR,pursR,List.reduceReplicate,Nat.reduceMul,Nat.reduceSub,Nat.reduceEqDiff,Int.reduceToNat,Int.reduceLE,Int.reduceLT,Int.reduceEq,reduceCtorEq,↓reduceIte]
  refine awp_loopA (n:=63) hA [2,3,4,5,6] (by decide +kernel) (fun i:Nat=>[.ptr 4 0,.ptr 5 0,.ptr 6 0,.ptr 7 0,.int .i64 i])
    (fun i=>[.ints true .u64 roots,.dead,.dead,.dead,.ints false .u8 a,.ints false .u8 (bkI a b i).2,.ints false .u8 [0,0,0,0,0,0,0,0,0,0,0,0,0,0,0,0],.ints false .u8 (bkI a b i).1]) (fun i=>i≤128) (fun i=>128-i) 0 ?_ (by omega) ?_
  · refine Hd.same ?_
    simp only[bkI,itr,z16,List.map_cons,List.map_nil,Nat.reduceLT,nth_asl,look_cons,look_nil,reduceCtorEq,↓reduceIte,Nat.reduceEqDiff,Int.cast_ofNat_Int,List.append_nil,List.cons_append,List.nil_append,asl_length,and_true,true_and,Nat.zero_add,Nat.add_zero,Nat.reduceAdd,qcz,qc0,List.reduceReplicate]
  intro i hi K hK
  obtain⟨l1,l2⟩:=bkI_len (a:=a) hbl i
  by_cases hlt:i<128
  · have c1:(i:Int)<128:=by omega
    have wi:Go.IntKind.i64.wrap ((i:Int)+1)=((i+1:Nat):Int):=by rw[wrap_i64];omega
    have n8:¬(8:Int)=0:=by decide
    have wd:Go.IntKind.i64.wrap ((i:Int).tdiv 8)=((i/8:Nat):Int):=by
      rw[Int.tdiv_eq_ediv_of_nonneg (by omega),wrap_i64];omega
    have wm:(i:Int).tmod 8=((i%8:Nat):Int):=tmod_nat (k:=8)
    have ws:Go.IntKind.i64.wrap (7-((i%8:Nat):Int))=((7-i%8:Nat):Int):=by rw[wrap_i64];omega
    have b16:i/8<16:=by omega
    have hx:bkI a b (i+1)=bkS a (bkI a b i) i:=rfl
    obtain⟨s,hs⟩:∃s,bkI a b i=s:=⟨_,rfl⟩
    rw[hs]at hx l1 l2 ⊢
    have hb1:bAnd .u8 (iShr .u8 (getI a (i/8)) ((7-i%8:Nat):Int)) 1=bkB a i:=rfl
    have hl:=shI_len l2
    have hz:shI s.2 0=(s.2,0):=rfl
    have hst:∀k,shI s.2 (k+1)=shS (shI s.2 k) k:=fun k=>rfl
    by_cases hbit:bkB a i=1
    · rw[bkS,if_pos hbit]at hx
      simp only[c1,n8,wd,wm,ws,b16,hal,hb1,hbit,sub_zero,qdb,qai,List.length_cons,List.length_nil,Nat.reduceAdd,Nat.le_refl,Nat.reduceLeDiff,Nat.reduceLT,true_and,and_true,↓evA,evB,evs,evp,mkB,repB,blen,↓retQ,res,resAll,resOne,kill,apartOk,exp,injV,injB,pur,purs,purR,pursR,List.reduceReplicate,Nat.reduceMul,Nat.reduceSub,Nat.reduceEqDiff,Int.reduceToNat,Int.reduceLE,Int.reduceLT,Int.reduceEq,reduceCtorEq,↓reduceIte]
      repeat(refine And.intro (by omega) ?_)
      refine awp_loopA (n:=63) hA [2,3,4,5,6,7] (by decide +kernel) (fun k:Nat=>[.ptr 4 0,.ptr 5 0,.ptr 6 0,.ptr 7 0,.int .i64 i,.int .i64 k])
        (fun k=>[.ints true .u64 roots,.dead,.dead,.dead,.ints false .u8 a,.ints false .u8 s.2,.ints false .u8 [0,0,0,0,0,0,0,0,0,0,0,0,0,0,0,0],.ints false .u8 (jn s.1 s.2 k)]) (fun k=>k≤16) (fun k=>16-k) 0 ?_ (by omega) ?_
      · refine Hd.same ?_
        simp only[jn,List.map_cons,List.map_nil,Nat.reduceLT,nth_asl,look_cons,look_nil,reduceCtorEq,↓reduceIte,Nat.reduceEqDiff,Int.cast_ofNat_Int,List.append_nil,List.cons_append,List.nil_append,asl_length,and_true,true_and,Nat.zero_add,Nat.add_zero,Nat.reduceAdd,qcz,qc0,List.reduceReplicate]
      intro k hk K2 hK2
      have hjl:(jn s.1 s.2 k).length=16:=by rw[jn_len,l1]
      by_cases hlk:k<16
      · have c2:(k:Int)<16:=by omega
        have wk:Go.IntKind.i64.wrap ((k:Int)+1)=((k+1:Nat):Int):=by rw[wrap_i64];omega
        have hy:jn s.1 s.2 (k+1)=(jn s.1 s.2 k).set k (bXor .u8 (getI (jn s.1 s.2 k) k) (getI s.2 k)):=rfl
        obtain⟨y,hye⟩:∃y,jn s.1 s.2 k=y:=⟨_,rfl⟩
        rw[hye]at hy hjl ⊢
        simp only[c2,wk,hjl,l2,hlk,sub_zero,qdb,qai,List.length_cons,List.length_nil,Nat.reduceAdd,Nat.le_refl,Nat.reduceLeDiff,Nat.reduceLT,true_and,and_true,↓evA,evB,evs,evp,mkB,repB,blen,↓retQ,res,resAll,resOne,kill,apartOk,exp,injV,injB,pur,purs,purR,pursR,List.reduceReplicate,Nat.reduceMul,Nat.reduceSub,Nat.reduceEqDiff,Int.reduceToNat,Int.reduceLE,Int.reduceLT,Int.reduceEq,reduceCtorEq,↓reduceIte]
        repeat(refine And.intro (by omega) ?_)
        refine⟨k+1,hK2 _ (by omega) (by omega),Hd.same ?_⟩
        simp only[hy,List.map_cons,List.map_nil,Nat.reduceLT,nth_asl,look_cons,look_nil,reduceCtorEq,↓reduceIte,Nat.reduceEqDiff,Int.cast_ofNat_Int,List.append_nil,List.cons_append,List.nil_append,asl_length,and_true,true_and,Nat.zero_add,Nat.add_zero,Nat.reduceAdd,qcz,qc0,List.reduceReplicate]
      obtain rfl:k=16:=by omega
      have c2:¬((16:Nat):Int)<16:=by omega
      obtain⟨p,hp⟩:∃p,jn s.1 s.2 16=p:=⟨_,rfl⟩
      rw[hp]at hx ⊢
      simp only[c2,sub_zero,qdb,qai,List.length_cons,List.length_nil,Nat.reduceAdd,Nat.le_refl,Nat.reduceLeDiff,Nat.reduceLT,true_and,and_true,↓evA,evB,evs,evp,mkB,repB,blen,↓retQ,res,resAll,resOne,kill,apartOk,exp,injV,injB,pur,purs,purR,pursR,List.reduceReplicate,Nat.reduceMul,Nat.reduceSub,Nat.reduceEqDiff,Int.reduceToNat,Int.reduceLE,Int.reduceLT,Int.reduceEq,reduceCtorEq,↓reduceIte]
      refine awp_loopA (n:=63) hA [2,3,4,5,6,8,9] (by decide +kernel) (fun k:Nat=>[.ptr 4 0,.ptr 5 0,.ptr 6 0,.ptr 7 0,.int .i64 i,.int .u8 (shI s.2 k).2,.int .i64 k])
        (fun k=>[.ints true .u64 roots,.dead,.dead,.dead,.ints false .u8 a,.ints false .u8 (shI s.2 k).1,.ints false .u8 [0,0,0,0,0,0,0,0,0,0,0,0,0,0,0,0],.ints false .u8 p]) (fun k=>k≤16) (fun k=>16-k) 0 ?_ (by omega) ?_
      · refine Hd.same ?_
        simp only[hz,List.map_cons,List.map_nil,Nat.reduceLT,nth_asl,look_cons,look_nil,reduceCtorEq,↓reduceIte,Nat.reduceEqDiff,Int.cast_ofNat_Int,List.append_nil,List.cons_append,List.nil_append,asl_length,and_true,true_and,Nat.zero_add,Nat.add_zero,Nat.reduceAdd,qcz,qc0,List.reduceReplicate]
      intro k hk K3 hK3
      have hlk:=hl k
      by_cases hk16:k<16
      · have c3:(k:Int)<16:=by omega
        have wk:Go.IntKind.i64.wrap ((k:Int)+1)=((k+1:Nat):Int):=by rw[wrap_i64];omega
        have hy:=hst k
        obtain⟨r,hr⟩:∃r,shI s.2 k=r:=⟨_,rfl⟩
        rw[hr]at hy hlk ⊢
        simp only[c3,wk,hlk,hk16,sub_zero,qdb,qai,List.length_cons,List.length_nil,Nat.reduceAdd,Nat.le_refl,Nat.reduceLeDiff,Nat.reduceLT,true_and,and_true,↓evA,evB,evs,evp,mkB,repB,blen,↓retQ,res,resAll,resOne,kill,apartOk,exp,injV,injB,pur,purs,purR,pursR,List.reduceReplicate,Nat.reduceMul,Nat.reduceSub,Nat.reduceEqDiff,Int.reduceToNat,Int.reduceLE,Int.reduceLT,Int.reduceEq,reduceCtorEq,↓reduceIte]
        repeat(refine And.intro (by omega) ?_)
        refine⟨k+1,hK3 _ (by omega) (by omega),Hd.same ?_⟩
        simp only[hy,shS,List.map_cons,List.map_nil,Nat.reduceLT,nth_asl,look_cons,look_nil,reduceCtorEq,↓reduceIte,Nat.reduceEqDiff,Int.cast_ofNat_Int,List.append_nil,List.cons_append,List.nil_append,asl_length,and_true,true_and,Nat.zero_add,Nat.add_zero,Nat.reduceAdd,qcz,qc0,List.reduceReplicate]
      obtain rfl:k=16:=by omega
      have c3:¬((16:Nat):Int)<16:=by omega
      unfold shF at hx
      obtain⟨r,hr⟩:∃r,shI s.2 16=r:=⟨_,rfl⟩
      rw[hr]at hx hlk ⊢
      by_cases hc:r.2=1
      · rw[if_pos hc]at hx
        simp only[c3,wi,hc,hlk,sub_zero,qdb,qai,List.length_cons,List.length_nil,Nat.reduceAdd,Nat.le_refl,Nat.reduceLeDiff,Nat.reduceLT,true_and,and_true,↓evA,evB,evs,evp,mkB,repB,blen,↓retQ,res,resAll,resOne,kill,apartOk,exp,injV,injB,pur,purs,purR,pursR,List.reduceReplicate,Nat.reduceMul,Nat.reduceSub,Nat.reduceEqDiff,Int.reduceToNat,Int.reduceLE,Int.reduceLT,Int.reduceEq,reduceCtorEq,↓reduceIte]
        repeat(refine And.intro (by omega) ?_)
        refine⟨i+1,hK _ (by omega) (by omega),Hd.same ?_⟩
        simp only[hx,List.map_cons,List.map_nil,Nat.reduceLT,nth_asl,look_cons,look_nil,reduceCtorEq,↓reduceIte,Nat.reduceEqDiff,Int.cast_ofNat_Int,List.append_nil,List.cons_append,List.nil_append,asl_length,and_true,true_and,Nat.zero_add,Nat.add_zero,Nat.reduceAdd,qcz,qc0,List.reduceReplicate]
      · rw[if_neg hc]at hx
        simp only[c3,wi,hc,sub_zero,qdb,qai,List.length_cons,List.length_nil,Nat.reduceAdd,Nat.le_refl,Nat.reduceLeDiff,Nat.reduceLT,true_and,and_true,↓evA,evB,evs,evp,mkB,repB,blen,↓retQ,res,resAll,resOne,kill,apartOk,exp,injV,injB,pur,purs,purR,pursR,List.reduceReplicate,Nat.reduceMul,Nat.reduceSub,Nat.reduceEqDiff,Int.reduceToNat,Int.reduceLE,Int.reduceLT,Int.reduceEq,reduceCtorEq,↓reduceIte]
        repeat(refine And.intro (by omega) ?_)
        refine⟨i+1,hK _ (by omega) (by omega),Hd.same ?_⟩
        simp only[hx,List.map_cons,List.map_nil,Nat.reduceLT,nth_asl,look_cons,look_nil,reduceCtorEq,↓reduceIte,Nat.reduceEqDiff,Int.cast_ofNat_Int,List.append_nil,List.cons_append,List.nil_append,asl_length,and_true,true_and,Nat.zero_add,Nat.add_zero,Nat.reduceAdd,qcz,qc0,List.reduceReplicate]
    · rw[bkS,if_neg hbit]at hx
      obtain⟨p,hp⟩:∃p,s.1=p:=⟨_,rfl⟩
      rw[hp]at hx ⊢
      simp only[c1,n8,wd,wm,ws,b16,hal,hb1,hbit,sub_zero,qdb,qai,List.length_cons,List.length_nil,Nat.reduceAdd,Nat.le_refl,Nat.reduceLeDiff,Nat.reduceLT,true_and,and_true,↓evA,evB,evs,evp,mkB,repB,blen,↓retQ,res,resAll,resOne,kill,apartOk,exp,injV,injB,pur,purs,purR,pursR,List.reduceReplicate,Nat.reduceMul,Nat.reduceSub,Nat.reduceEqDiff,Int.reduceToNat,Int.reduceLE,Int.reduceLT,Int.reduceEq,reduceCtorEq,↓reduceIte]
      repeat(refine And.intro (by omega) ?_)
      refine awp_loopA (n:=63) hA [2,3,4,5,6,8,9] (by decide +kernel) (fun k:Nat=>[.ptr 4 0,.ptr 5 0,.ptr 6 0,.ptr 7 0,.int .i64 i,.int .u8 (shI s.2 k).2,.int .i64 k])
        (fun k=>[.ints true .u64 roots,.dead,.dead,.dead,.ints false .u8 a,.ints false .u8 (shI s.2 k).1,.ints false .u8 [0,0,0,0,0,0,0,0,0,0,0,0,0,0,0,0],.ints false .u8 p]) (fun k=>k≤16) (fun k=>16-k) 0 ?_ (by omega) ?_
      · refine Hd.same ?_
        simp only[hz,List.map_cons,List.map_nil,Nat.reduceLT,nth_asl,look_cons,look_nil,reduceCtorEq,↓reduceIte,Nat.reduceEqDiff,Int.cast_ofNat_Int,List.append_nil,List.cons_append,List.nil_append,asl_length,and_true,true_and,Nat.zero_add,Nat.add_zero,Nat.reduceAdd,qcz,qc0,List.reduceReplicate]
      intro k hk K3 hK3
      have hlk:=hl k
      by_cases hk16:k<16
      · have c3:(k:Int)<16:=by omega
        have wk:Go.IntKind.i64.wrap ((k:Int)+1)=((k+1:Nat):Int):=by rw[wrap_i64];omega
        have hy:=hst k
        obtain⟨r,hr⟩:∃r,shI s.2 k=r:=⟨_,rfl⟩
        rw[hr]at hy hlk ⊢
        simp only[c3,wk,hlk,hk16,sub_zero,qdb,qai,List.length_cons,List.length_nil,Nat.reduceAdd,Nat.le_refl,Nat.reduceLeDiff,Nat.reduceLT,true_and,and_true,↓evA,evB,evs,evp,mkB,repB,blen,↓retQ,res,resAll,resOne,kill,apartOk,exp,injV,injB,pur,purs,purR,pursR,List.reduceReplicate,Nat.reduceMul,Nat.reduceSub,Nat.reduceEqDiff,Int.reduceToNat,Int.reduceLE,Int.reduceLT,Int.reduceEq,reduceCtorEq,↓reduceIte]
        repeat(refine And.intro (by omega) ?_)
        refine⟨k+1,hK3 _ (by omega) (by omega),Hd.same ?_⟩
        simp only[hy,shS,List.map_cons,List.map_nil,Nat.reduceLT,nth_asl,look_cons,look_nil,reduceCtorEq,↓reduceIte,Nat.reduceEqDiff,Int.cast_ofNat_Int,List.append_nil,List.cons_append,List.nil_append,asl_length,and_true,true_and,Nat.zero_add,Nat.add_zero,Nat.reduceAdd,qcz,qc0,List.reduceReplicate]
      obtain rfl:k=16:=by omega
      have c3:¬((16:Nat):Int)<16:=by omega
      unfold shF at hx
      obtain⟨r,hr⟩:∃r,shI s.2 16=r:=⟨_,rfl⟩
      rw[hr]at hx hlk ⊢
      by_cases hc:r.2=1
      · rw[if_pos hc]at hx
        simp only[c3,wi,hc,hlk,sub_zero,qdb,qai,List.length_cons,List.length_nil,Nat.reduceAdd,Nat.le_refl,Nat.reduceLeDiff,Nat.reduceLT,true_and,and_true,↓evA,evB,evs,evp,mkB,repB,blen,↓retQ,res,resAll,resOne,kill,apartOk,exp,injV,injB,pur,purs,purR,pursR,List.reduceReplicate,Nat.reduceMul,Nat.reduceSub,Nat.reduceEqDiff,Int.reduceToNat,Int.reduceLE,Int.reduceLT,Int.reduceEq,reduceCtorEq,↓reduceIte]
        repeat(refine And.intro (by omega) ?_)
        refine⟨i+1,hK _ (by omega) (by omega),Hd.same ?_⟩
        simp only[hx,List.map_cons,List.map_nil,Nat.reduceLT,nth_asl,look_cons,look_nil,reduceCtorEq,↓reduceIte,Nat.reduceEqDiff,Int.cast_ofNat_Int,List.append_nil,List.cons_append,List.nil_append,asl_length,and_true,true_and,Nat.zero_add,Nat.add_zero,Nat.reduceAdd,qcz,qc0,List.reduceReplicate]
      · rw[if_neg hc]at hx
        simp only[c3,wi,hc,sub_zero,qdb,qai,List.length_cons,List.length_nil,Nat.reduceAdd,Nat.le_refl,Nat.reduceLeDiff,Nat.reduceLT,true_and,and_true,↓evA,evB,evs,evp,mkB,repB,blen,↓retQ,res,resAll,resOne,kill,apartOk,exp,injV,injB,pur,purs,purR,pursR,List.reduceReplicate,Nat.reduceMul,Nat.reduceSub,Nat.reduceEqDiff,Int.reduceToNat,Int.reduceLE,Int.reduceLT,Int.reduceEq,reduceCtorEq,↓reduceIte]
        repeat(refine And.intro (by omega) ?_)
        refine⟨i+1,hK _ (by omega) (by omega),Hd.same ?_⟩
        simp only[hx,List.map_cons,List.map_nil,Nat.reduceLT,nth_asl,look_cons,look_nil,reduceCtorEq,↓reduceIte,Nat.reduceEqDiff,Int.cast_ofNat_Int,List.append_nil,List.cons_append,List.nil_append,asl_length,and_true,true_and,Nat.zero_add,Nat.add_zero,Nat.reduceAdd,qcz,qc0,List.reduceReplicate]
  obtain rfl:i=128:=by omega
  have c1:¬((128:Nat):Int)<128:=by omega
  have hR:(bkI a b 128).1=bkF a b:=rfl
  rw[hR]at l1 ⊢
  obtain⟨R,hRR⟩:∃R,bkF a b=R:=⟨_,rfl⟩
  rw[hRR]at l1 ⊢
  have sR:sub R 0 16=R:=sub_zero l1
  have pR:spl [0,0,0,0,0,0,0,0,0,0,0,0,0,0,0,0] 0 R=R:=qdb (by simp[l1])
  simp only[c1,l1,sR,pR,sub_zero,qdb,qai,List.length_cons,List.length_nil,Nat.reduceAdd,Nat.le_refl,Nat.reduceLeDiff,Nat.reduceLT,true_and,and_true,↓evA,evB,evs,evp,mkB,repB,blen,↓retQ,res,resAll,resOne,kill,apartOk,exp,injV,injB,pur,purs,purR,pursR,List.reduceReplicate,Nat.reduceMul,Nat.reduceSub,Nat.reduceEqDiff,Int.reduceToNat,Int.reduceLE,Int.reduceLT,Int.reduceEq,reduceCtorEq,↓reduceIte]
  repeat(refine And.intro (by omega) ?_)
  simp only[out,outs,out1,pur,and_self]
/-! ### The reference's hash -/
def xkS (b:List Int) (m:Nat) (s:List Int) (j:Nat):List Int:=s.set j (bXor .u8 (getI s j) (getI b (16*m+j)))
def hrS (h b:List Int) (y:List Int) (m:Nat):List Int:=bkF (itr (xkS b m) y (min (16*(m+1)) b.length-16*m)) h
def hrF (y h b:List Int):List Int:=itr (hrS h b) y (nbl b)
theorem xkS_len {b y:List Int} {m:Nat} (h:y.length=16) (n:Nat):(itr (xkS b m) y n).length=16 :=
  itr_inv (fun _ (s:List Int)=>s.length=16) h (fun n s hs=>by simp[xkS,hs]) n
theorem bkF_len {a b:List Int} (h:b.length=16):(bkF a b).length=16:=(bkI_len h 128).1
theorem hrS_len {h b y:List Int} (hh:h.length=16) (hy:y.length=16) (n:Nat):(itr (hrS h b) y n).length=16 :=
  itr_inv (fun _ (s:List Int)=>s.length=16) hy (fun n s hs=>bkF_len hh) n
def preHr (ds:List D):Prop:=∃y h b:List Int,ds=[.v (.ints .u8 y),.v (.ints .u8 h),.s .u8 b]∧y.length=16∧h.length=16∧b.length≤549755813888
def F72:List D→Out
  | [.v (.ints _ y),.v (.ints _ h),.s _ b]=>.one (.v (.ints .u8 (hrF y h b)))
  | _=>bad
def s72:Summ:=sData [.v,.v,.s .u8] preHr F72
set_option maxHeartbeats 4000000 in
theorem ok72 {g:List Blk} [Ge gl g]:SumOK Tryd.prog g 72 s72∧SumAbs s72:=by
  refine fsumA (l:=[(80,s80)]) mixed gl_plain rfl Tryd.func72 comp72 compR72 nt72 (by simp only[List.mem_cons,List.not_mem_nil,or_false,forall_eq];exact ok80) fun ds ⟨y0,h,b,hd,hyl,hhl,hbl⟩ hA=>?_
  subst hd
  have hF:F72 [.v (.ints .u8 y0),.v (.ints .u8 h),.s .u8 b]=.one (.v (.ints .u8 (hrF y0 h b))):=rfl
  have sy:sub y0 0 16=y0:=sub_zero hyl
  have sh:sub h 0 16=h:=sub_zero hhl
  have sb:=qdd b
  simp only[s80]
  simp only[ir72,rs72,gl,hF,sy,sh,sb,hyl,hhl,sub_zero,qdb,qai,List.length_cons,List.length_nil,Nat.reduceAdd,Nat.le_refl,Nat.reduceLeDiff,Nat.reduceLT,true_and,and_true,↓evA,evB,evs,evp,mkB,repB,blen,↓retQ,res,resAll,resOne,kill,apartOk,exp,injV,injB,pur,purs,purR,pursR,List.reduceReplicate,Nat.reduceMul,Nat.reduceSub,Nat.reduceEqDiff,Int.reduceToNat,Int.reduceLE,Int.reduceLT,Int.reduceEq,reduceCtorEq,↓reduceIte]
  refine awp_loopA (n:=46) hA [2,3,4,6,7] (by decide +kernel) (fun m:Nat=>[.slice 4 0 1 b.length b.length,.ptr 5 0,.ptr 6 0,.ptr 7 0,.int .i64 ((16*m:Nat):Int)])
    (fun m=>[.ints true .u64 roots,.dead,.dead,.dead,.ints true .u8 b,.ints false .u8 (itr (hrS h b) y0 m),.ints false .u8 h,.ints false .u8 [0,0,0,0,0,0,0,0,0,0,0,0,0,0,0,0]]) (fun m=>m≤nbl b) (fun m=>nbl b-m) 0 ?_ (by omega) ?_
  · refine Hd.same ?_
    simp only[itr,show ((16*0:Nat):Int)=0 from rfl,List.map_cons,List.map_nil,Nat.reduceLT,nth_asl,look_cons,look_nil,reduceCtorEq,↓reduceIte,Nat.reduceEqDiff,Int.cast_ofNat_Int,List.append_nil,List.cons_append,List.nil_append,asl_length,and_true,true_and,Nat.zero_add,Nat.add_zero,Nat.reduceAdd,qcz,qc0,List.reduceReplicate]
  intro m hm K hK
  have hil:=hrS_len (b:=b) hhl hyl m
  simp only[s80]
  unfold nbl at hm hK
  by_cases hlm:16*m<b.length
  · have c1:((16*m:Nat):Int)<(b.length:Int):=by omega
    have w16:Go.IntKind.i64.wrap (((16*m:Nat):Int)+16)=((16*(m+1):Nat):Int):=by rw[wrap_i64];omega
    have hx:itr (hrS h b) y0 (m+1)=bkF (itr (xkS b m) (itr (hrS h b) y0 m) (min (16*(m+1)) b.length-16*m)) h:=rfl
    obtain⟨y,hy⟩:∃y,itr (hrS h b) y0 m=y:=⟨_,rfl⟩
    rw[hy]at hx hil ⊢
    obtain⟨e,he⟩:∃e,min (16*(m+1)) b.length-16*m=e:=⟨_,rfl⟩
    rw[he]at hx
    have he16:e≤16:=by omega
    simp only[c1,sub_zero,qdb,qai,List.length_cons,List.length_nil,Nat.reduceAdd,Nat.le_refl,Nat.reduceLeDiff,Nat.reduceLT,true_and,and_true,↓evA,evB,evs,evp,mkB,repB,blen,↓retQ,res,resAll,resOne,kill,apartOk,exp,injV,injB,pur,purs,purR,pursR,List.reduceReplicate,Nat.reduceMul,Nat.reduceSub,Nat.reduceEqDiff,Int.reduceToNat,Int.reduceLE,Int.reduceLT,Int.reduceEq,reduceCtorEq,↓reduceIte]
    refine awp_loopA (n:=46) hA [2,3,4,6,7,8] (by decide +kernel) (fun t:Nat=>[.slice 4 0 1 b.length b.length,.ptr 5 0,.ptr 6 0,.ptr 7 0,.int .i64 ((16*m:Nat):Int),.int .i64 ((16*m+t:Nat):Int)])
      (fun t=>[.ints true .u64 roots,.dead,.dead,.dead,.ints true .u8 b,.ints false .u8 (itr (xkS b m) y t),.ints false .u8 h,.ints false .u8 [0,0,0,0,0,0,0,0,0,0,0,0,0,0,0,0]]) (fun t=>t≤e) (fun t=>e-t) 0 ?_ (by omega) ?_
    · refine Hd.same ?_
      simp only[itr,Nat.add_zero,List.map_cons,List.map_nil,Nat.reduceLT,nth_asl,look_cons,look_nil,reduceCtorEq,↓reduceIte,Nat.reduceEqDiff,Int.cast_ofNat_Int,List.append_nil,List.cons_append,List.nil_append,asl_length,and_true,true_and,Nat.zero_add,Nat.reduceAdd,qcz,qc0,List.reduceReplicate]
    intro t ht K2 hK2
    have hxl:=xkS_len (b:=b) (m:=m) hil t
    simp only[s80]
    by_cases hlt:t<e
    · have d1:((16*m+t:Nat):Int)<((16*(m+1):Nat):Int):=by omega
      have d2:((16*m+t:Nat):Int)<(b.length:Int):=by omega
      have wt:Go.IntKind.i64.wrap (((16*m+t:Nat):Int)+1)=((16*m+(t+1):Nat):Int):=by rw[wrap_i64];omega
      have wd:Go.IntKind.i64.wrap (((16*m+t:Nat):Int)-((16*m:Nat):Int))=(t:Int):=by rw[wrap_i64];omega
      have hst:itr (xkS b m) y (t+1)=xkS b m (itr (xkS b m) y t) t:=rfl
      obtain⟨z,hz⟩:∃z,itr (xkS b m) y t=z:=⟨_,rfl⟩
      rw[hz]at hst hxl ⊢
      have b1:t<16:=by omega
      have b2:16*m+t<b.length:=by omega
      simp only[d1,d2,w16,wt,wd,hxl,b1,b2,sub_zero,qdb,qai,List.length_cons,List.length_nil,Nat.reduceAdd,Nat.le_refl,Nat.reduceLeDiff,Nat.reduceLT,true_and,and_true,↓evA,evB,evs,evp,mkB,repB,blen,↓retQ,res,resAll,resOne,kill,apartOk,exp,injV,injB,pur,purs,purR,pursR,List.reduceReplicate,Nat.reduceMul,Nat.reduceSub,Nat.reduceEqDiff,Int.reduceToNat,Int.reduceLE,Int.reduceLT,Int.reduceEq,reduceCtorEq,↓reduceIte]
      repeat(refine And.intro (by omega) ?_)
      refine⟨t+1,hK2 _ (by omega) (by omega),Hd.same ?_⟩
      simp only[hst,xkS,List.map_cons,List.map_nil,Nat.reduceLT,nth_asl,look_cons,look_nil,reduceCtorEq,↓reduceIte,Nat.reduceEqDiff,Int.cast_ofNat_Int,List.append_nil,List.cons_append,List.nil_append,asl_length,and_true,true_and,Nat.zero_add,Nat.add_zero,Nat.reduceAdd,qcz,qc0,List.reduceReplicate]
    obtain rfl:t=e:=by omega
    obtain⟨z,hz⟩:∃z,itr (xkS b m) y t=z:=⟨_,rfl⟩
    rw[hz]at hx hxl ⊢
    have q:preBk [.v (.ints .u8 z),.v (.ints .u8 h)]:=⟨_,_,rfl,hxl,hhl⟩
    have f:F80 [.v (.ints .u8 z),.v (.ints .u8 h)]=.one (.v (.ints .u8 (bkF z h))):=rfl
    have hRl:=bkF_len (a:=z) hhl
    obtain⟨R,hR⟩:∃R,bkF z h=R:=⟨_,rfl⟩
    rw[hR]at hx f hRl
    have sz:sub z 0 16=z:=sub_zero hxl
    have pz:spl z 0 R=R:=qdb (by omega)
    by_cases h16:t=16
    · have d1:¬((16*m+t:Nat):Int)<((16*(m+1):Nat):Int):=by omega
      simp only[d1,w16,q,f,sh,sz,pz,hxl,hhl,hRl,sub_zero,qdb,qai,List.length_cons,List.length_nil,Nat.reduceAdd,Nat.le_refl,Nat.reduceLeDiff,Nat.reduceLT,true_and,and_true,↓evA,evB,evs,evp,mkB,repB,blen,↓retQ,res,resAll,resOne,kill,apartOk,exp,injV,injB,pur,purs,purR,pursR,List.reduceReplicate,Nat.reduceMul,Nat.reduceSub,Nat.reduceEqDiff,Int.reduceToNat,Int.reduceLE,Int.reduceLT,Int.reduceEq,reduceCtorEq,↓reduceIte]
      repeat(refine And.intro (by omega) ?_)
      refine⟨m+1,hK _ (by omega) (by omega),Hd.same ?_⟩
      simp only[hx,List.map_cons,List.map_nil,Nat.reduceLT,nth_asl,look_cons,look_nil,reduceCtorEq,↓reduceIte,Nat.reduceEqDiff,Int.cast_ofNat_Int,List.append_nil,List.cons_append,List.nil_append,asl_length,and_true,true_and,Nat.zero_add,Nat.add_zero,Nat.reduceAdd,qcz,qc0,List.reduceReplicate]
    · have d1:((16*m+t:Nat):Int)<((16*(m+1):Nat):Int):=by omega
      have d2:¬((16*m+t:Nat):Int)<(b.length:Int):=by omega
      simp only[d1,d2,w16,q,f,sh,sz,pz,hxl,hhl,hRl,sub_zero,qdb,qai,List.length_cons,List.length_nil,Nat.reduceAdd,Nat.le_refl,Nat.reduceLeDiff,Nat.reduceLT,true_and,and_true,↓evA,evB,evs,evp,mkB,repB,blen,↓retQ,res,resAll,resOne,kill,apartOk,exp,injV,injB,pur,purs,purR,pursR,List.reduceReplicate,Nat.reduceMul,Nat.reduceSub,Nat.reduceEqDiff,Int.reduceToNat,Int.reduceLE,Int.reduceLT,Int.reduceEq,reduceCtorEq,↓reduceIte]
      repeat(refine And.intro (by omega) ?_)
      refine⟨m+1,hK _ (by omega) (by omega),Hd.same ?_⟩
      simp only[hx,List.map_cons,List.map_nil,Nat.reduceLT,nth_asl,look_cons,look_nil,reduceCtorEq,↓reduceIte,Nat.reduceEqDiff,Int.cast_ofNat_Int,List.append_nil,List.cons_append,List.nil_append,asl_length,and_true,true_and,Nat.zero_add,Nat.add_zero,Nat.reduceAdd,qcz,qc0,List.reduceReplicate]
  have c1:¬((16*m:Nat):Int)<(b.length:Int):=by omega
  have hmn:m=nbl b:=by unfold nbl;omega
  have hR:itr (hrS h b) y0 m=hrF y0 h b:=by rw[hmn];rfl
  rw[hR]at hil ⊢
  obtain⟨R,hRR⟩:∃R,hrF y0 h b=R:=⟨_,rfl⟩
  rw[hRR]at hil ⊢
  have sR:sub R 0 16=R:=sub_zero hil
  have pR:spl [0,0,0,0,0,0,0,0,0,0,0,0,0,0,0,0] 0 R=R:=qdb (by simp[hil])
  simp only[c1,hil,sR,pR,sub_zero,qdb,qai,List.length_cons,List.length_nil,Nat.reduceAdd,Nat.le_refl,Nat.reduceLeDiff,Nat.reduceLT,true_and,and_true,↓evA,evB,evs,evp,mkB,repB,blen,↓retQ,res,resAll,resOne,kill,apartOk,exp,injV,injB,pur,purs,purR,pursR,List.reduceReplicate,Nat.reduceMul,Nat.reduceSub,Nat.reduceEqDiff,Int.reduceToNat,Int.reduceLE,Int.reduceLT,Int.reduceEq,reduceCtorEq,↓reduceIte]
  repeat(refine And.intro (by omega) ?_)
  simp only[out,outs,out1,pur,and_self]
end Am
set_option maxRecDepth 20000
namespace Am
open Go.Proofs
/-! ### The reference's product is the program's -/
/-- A bit of a block, and of two halves; the number's lowest bit is the first. -/
def Bb (b:List Int) (i:Nat):Bool:=nb (getI b (15-i/8)) (i%8)
def Hb (h:Int×Int) (i:Nat):Bool:=if i<64 then nb h.2 i else nb h.1 (i-64)
def W2 (h:Int×Int):Prop:=Wd h.1∧Wd h.2
theorem w2_ext {g h:Int×Int} (hg:W2 g) (hh:W2 h) (e:∀i,i<128→Hb g i=Hb h i):g=h:=by
  obtain⟨g1,g2⟩:=g
  obtain⟨h1,h2⟩:=h
  have e2:g2=h2:=wd_ext hg.2 hh.2 fun i hi=>by
    have:=e i (by omega)
    simpa[Hb,hi]using this
  have e1:g1=h1:=wd_ext hg.1 hh.1 fun i hi=>by
    have:=e (i+64) (by omega)
    simpa[Hb,show ¬i+64<64 by omega]using this
  rw[e1,e2]
theorem bt_wd {x:Int} (h:Bt x):Wd x:=⟨h.1,by have:=h.2;omega⟩
theorem shlG8 {x:Int} (hx:Wd x):Wd (iShl .u64 x 8)∧∀i,nb (iShl .u64 x 8) i=(decide (i<64)&&(decide (8≤i)&&nb x (i-8))):=wd_shl hx (s:=8) (by decide)
theorem shl63 {x:Int} (hx:Wd x):Wd (iShl .u64 x 63)∧∀i,nb (iShl .u64 x 63) i=(decide (i<64)&&(decide (63≤i)&&nb x (i-63))):=wd_shl hx (s:=63) (by decide)
theorem shr1 {x:Int} (hx:Wd x):Wd (iShr .u64 x 1)∧∀i,nb (iShr .u64 x 1) i=nb x (i+1):=wd_shr hx (s:=1) (by decide)
theorem Hb_lo {h:Int×Int} {i:Nat} (hi:i<64):Hb h i=nb h.2 i:=by rw[Hb,if_pos hi]
theorem Hb_hi {h:Int×Int} {i:Nat} (hi:¬i<64):Hb h i=nb h.1 (i-64):=by rw[Hb,if_neg hi]
theorem of_step {b:List Int} (hb:B16 b):∀n,n≤8→W2 (itr (ofS b) (0,0) n) ∧
    (∀i,i<64→nb (itr (ofS b) (0,0) n).1 i=(decide (i<8*n)&&nb (getI b (n-1-i/8)) (i%8))) ∧
    (∀i,i<64→nb (itr (ofS b) (0,0) n).2 i=(decide (i<8*n)&&nb (getI b (8+(n-1-i/8))) (i%8)))
  | 0,_=>⟨⟨⟨by simp[itr],by simp[itr]⟩,⟨by simp[itr],by simp[itr]⟩⟩,fun i _=>by simp[itr,nb],fun i _=>by simp[itr,nb]⟩
  | n+1,hn=>by
    obtain⟨⟨w1,w2⟩,h1,h2⟩:=of_step hb n (by omega)
    rw[itr_s]
    have b1:Bt (getI b n):=hb.2.all (by decide) n
    have b2:Bt (getI b (8+n)):=hb.2.all (by decide) (8+n)
    have s1:=shlG8 w1
    have s2:=shlG8 w2
    have o1:=wd_or s1.1 (bt_wd b1)
    have o2:=wd_or s2.1 (bt_wd b2)
    have key:∀(f:Nat→Int) (x y:Int) (hy:Bt y) (hx:∀i,i<64→nb x i=(decide (i<8*n)&&nb (f (n-1-i/8)) (i%8))) (hf:f n=y) (i:Nat) (hi:i<64),
        ((decide (i<64)&&(decide (8≤i)&&nb x (i-8)))||nb y i)=(decide (i<8*(n+1))&&nb (f (n+1-1-i/8)) (i%8)):=by
      intro f x y hy hx hf i hi
      by_cases h8:8≤i
      · rw[nb_hi8 hy h8,hx _ (by omega),show n+1-1-i/8=n-1-(i-8)/8 by omega,show (i-8)%8=i%8 by omega]
        by_cases hlt:i<8*(n+1)
        · simp[hi,h8,hlt,show i-8<8*n by omega]
        · simp[hi,h8,hlt,show ¬i-8<8*n by omega]
      · rw[show i%8=i by omega,show i/8=0 by omega,show n+1-1-0=n by omega,hf]
        simp[h8,show i<8*(n+1) by omega]
    refine⟨⟨o1.1,o2.1⟩,fun i hi=>?_,fun i hi=>?_⟩
    · show nb (bOr .u64 _ _) i=_
      rw[o1.2,s1.2]
      exact key (fun j=>getI b j) _ _ b1 h1 rfl i hi
    · show nb (bOr .u64 _ _) i=_
      rw[o2.2,s2.2]
      exact key (fun j=>getI b (8+j)) _ _ b2 h2 rfl i hi
theorem of_w2 {b:List Int} (hb:B16 b):W2 (ofF b):=(of_step hb 8 (by decide)).1
theorem of_bit {b:List Int} (hb:B16 b) {i:Nat} (hi:i<128):Hb (ofF b) i=Bb b i:=by
  obtain⟨-,h1,h2⟩:=of_step hb 8 (by decide)
  unfold Hb Bb
  split
  · rename_i h
    show nb (itr (ofS b) (0,0) 8).2 i=_
    rw[h2 i h,show 8+(8-1-i/8)=15-i/8 by omega]
    simp[show i<8*8 by omega]
  · rename_i h
    show nb (itr (ofS b) (0,0) 8).1 (i-64)=_
    rw[h1 _ (by omega),show 8-1-(i-64)/8=15-i/8 by omega,show (i-64)%8=i%8 by omega]
    simp[show i-64<8*8 by omega]
theorem bb_ext {a b:List Int} (ha:B16 a) (hb:B16 b) (e:∀i,i<128→Bb a i=Bb b i):a=b:=by
  refine getI_ext (ha.1.trans hb.1.symm) fun j hj=>?_
  rw[ha.1]at hj
  have b1:Bt (getI a j):=ha.2.all (by decide) j
  have b2:Bt (getI b j):=hb.2.all (by decide) j
  refine wd_ext (bt_wd b1) (bt_wd b2) fun i _=>?_
  by_cases h8:8≤i
  · rw[nb_hi8 b1 h8,nb_hi8 b2 h8]
  · have:=e (8*(15-j)+i) (by omega)
    unfold Bb at this
    rwa [show 15-(8*(15-j)+i)/8=j by omega,show (8*(15-j)+i)%8=i by omega]at this
/-! What a round does with bits. -/
def cc (i:Nat):Bool:=decide (120≤i)&&Nat.testBit 225 (i-120)
def shB (g:Nat→Bool) (i:Nat):Bool:=(decide (i<127)&&g (i+1)) ^^ (g 0&&cc i)
theorem cc_hi:∀i,i<128→cc i=(decide (64≤i)&&Nat.testBit 16212958658533785600 (i-64)):=by decide +kernel
theorem nb_nat' {n:Nat} {x:Int} (h:x=n) (i:Nat):nb x i=n.testBit i:=by rw[h,nb_nat]
theorem tm_bit {h:Int×Int} (hh:W2 h) {t:Nat} (ht:t<128):tmB h.1 h.2 t=if Hb h (127-t)then 1 else 0:=by
  unfold tmB
  have hs:63-t%64<64:=by omega
  split
  · have w:=wd_shr hh.2 hs
    rw[wd_low w.1,w.2]
    unfold Hb
    rw[if_pos (show 127-t<64 by omega),show 0+(63-t%64)=127-t by omega]
  · have w:=wd_shr hh.1 hs
    rw[wd_low w.1,w.2]
    unfold Hb
    rw[if_neg (show ¬127-t<64 by omega),show 0+(63-t%64)=127-t-64 by omega]
theorem nb_c (i:Nat):nb 16212958658533785600 i=Nat.testBit 16212958658533785600 i:=nb_nat' rfl i
theorem tm_step {h:Int×Int} (hh:W2 h) {p1 p2 b1 b2:Int} (h1:W2 (p1,p2)) (h2:W2 (b1,b2)) {t:Nat} (ht:t<128) :
    (W2 (tmS h.1 h.2 ((p1,p2),(b1,b2)) t).1∧W2 (tmS h.1 h.2 ((p1,p2),(b1,b2)) t).2)∧∀i,i<128→Hb (tmS h.1 h.2 ((p1,p2),(b1,b2)) t).1 i=(Hb (p1,p2) i ^^ (Hb h (127-t)&&Hb (b1,b2) i))∧Hb (tmS h.1 h.2 ((p1,p2),(b1,b2)) t).2 i=shB (Hb (b1,b2)) i:=by
  have tb:=tm_bit hh ht
  obtain⟨c,hc⟩:∃c,Hb h (127-t)=c:=⟨_,rfl⟩
  rw[hc]at tb ⊢
  obtain⟨p1w,p2w⟩:Wd p1∧Wd p2:=h1
  obtain⟨b1w,b2w⟩:Wd b1∧Wd b2:=h2
  have m1:=wd_mask b1w c
  have m2:=wd_mask b2w c
  have x1:=wd_xor p1w m1.1
  have x2:=wd_xor p2w m2.1
  have cw:Wd 16212958658533785600:=⟨by decide,by decide⟩
  have mc:=wd_mask cw (nb b2 0)
  have r1:=shr1 b1w
  have r2:=shr1 b2w
  have l1:=shl63 b1w
  have y1:=wd_xor r1.1 mc.1
  have y2:=wd_or r2.1 l1.1
  have e:tmS h.1 h.2 ((p1,p2),(b1,b2)) t=((bXor .u64 p1 (bAnd .u64 b1 (Go.IntKind.u64.wrap (0-(if c then 1 else 0)))),bXor .u64 p2 (bAnd .u64 b2 (Go.IntKind.u64.wrap (0-(if c then 1 else 0))))),
      (bXor .u64 (iShr .u64 b1 1) (bAnd .u64 16212958658533785600 (Go.IntKind.u64.wrap (0-(if nb b2 0 then 1 else 0)))),bOr .u64 (iShr .u64 b2 1) (iShl .u64 b1 63))):=by
    simp only[tmS,tb,wd_low b2w]
  rw[e]
  refine⟨⟨⟨x1.1,x2.1⟩,⟨y1.1,y2.1⟩⟩,fun i hi=>⟨?_,?_⟩⟩
  · by_cases h64:i<64
    · simp only[Hb_lo h64]
      rw[x2.2,m2.2]
    · simp only[Hb_hi h64]
      rw[x1.2,m1.2]
  · have h0:Hb (b1,b2) 0=nb b2 0:=rfl
    rw[shB,cc_hi i hi,h0]
    by_cases h64:i<64
    · rw[Hb_lo h64]
      show nb (bOr .u64 (iShr .u64 b2 1) (iShl .u64 b1 63)) i=_
      rw[y2.2,r2.2,l1.2]
      simp only[h64,show ¬64≤i by omega,decide_true,decide_false,Bool.true_and,Bool.false_and,Bool.and_false,Bool.xor_false,show i<127 by omega]
      by_cases h63:i=63
      · subst h63
        rw[Hb_hi (by decide),nb_hi b2w (by decide)]
        simp
      · rw[Hb_lo (by omega)]
        simp[show ¬63≤i by omega]
    · rw[Hb_hi h64,Hb_hi (show ¬i+1<64 by omega)]
      show nb (bXor .u64 (iShr .u64 b1 1) _) (i-64)=_
      rw[y1.2,r1.2,mc.2,nb_c]
      simp only[show 64≤i by omega,decide_true,Bool.true_and]
      by_cases h127:i<127
      · simp[h127,show i-64+1=i+1-64 by omega]
      · rw[show i-64+1=64 by omega,nb_hi b1w (by decide)]
        simp[h127]
end Am
set_option maxRecDepth 20000
namespace Am
open Go.Proofs
/-! ### A block moved by a bit, byte by byte -/
theorem getI_st {l:List Int} {i j:Nat} {v:Int}:getI (l.set i v) j=if i=j∧j<l.length then v else getI l j:=by
  simp only[getI,List.getD_eq_getElem?_getD,List.getElem?_set]
  by_cases h:i=j
  · subst h
    by_cases h2:i<l.length
    · simp[h2]
    · simp[h2]
  · simp[h]
def lowI (b:List Int) (n:Nat):Bool:=decide (0<n)&&nb (getI b (n-1)) 0
theorem bt_c7 (l:Bool):Bt (iShl .u8 (if l then 1 else 0) 7)∧∀r,r<8→nb (iShl .u8 (if l then 1 else 0) 7) r=(decide (r=7)&&l):=by
  cases l
  · exact⟨⟨by decide,by decide⟩,by decide +kernel⟩
  · exact⟨⟨by decide,by decide⟩,by decide +kernel⟩
theorem shr8 {x:Int} (hx:Bt x):Bt (iShr .u8 x 1)∧∀i,nb (iShr .u8 x 1) i=nb x (i+1):=bt_shr hx (s:=1) (by decide)
theorem sh_byte {x:Int} (hx:Bt x) (l:Bool):Bt (bOr .u8 (iShr .u8 x 1) (iShl .u8 (if l then 1 else 0) 7))∧∀r,r<8→nb (bOr .u8 (iShr .u8 x 1) (iShl .u8 (if l then 1 else 0) 7)) r=(nb x (r+1)||(decide (r=7)&&l)):=by
  have h1:=shr8 hx
  have h2:=bt_c7 l
  exact⟨(or_bt h1.1 h2.1).1,fun r hr=>by rw[bt_or h1.1 h2.1,h1.2,h2.2 r hr]⟩
theorem sh_step {b:List Int} (hb:B16 b):∀n,n≤16→B16 (shI b n).1∧(shI b n).2=(if lowI b n then 1 else 0)∧(∀j,n≤j→getI (shI b n).1 j=getI b j) ∧
    ∀j,j<n→∀r,r<8→nb (getI (shI b n).1 j) r=(nb (getI b j) (r+1)||(decide (r=7)&&lowI b j))
  | 0,_=>⟨hb,by simp[shI,itr,lowI],fun j _=>rfl,fun j hj=>by omega⟩
  | n+1,hn=>by
    obtain⟨h1,h2,h3,h4⟩:=sh_step hb n (by omega)
    have e:shI b (n+1)=shS (shI b n) n:=rfl
    obtain⟨⟨s,c⟩,hs⟩:∃r,shI b n=r:=⟨_,rfl⟩
    rw[hs]at h1 h2 h3 h4 e
    simp only at h1 h2 h3 h4
    have hx:Bt (getI b n):=hb.2.all (by decide) n
    have hv:=sh_byte hx (lowI b n)
    rw[e]
    simp only[shS,h2,h3 n (by omega)]
    refine⟨⟨by simp[h1.1],h1.2.set _ hv.1.1 hv.1.2⟩,?_,fun j hj=>?_,fun j hj r hr=>?_⟩
    · rw[bt_low hx,lowI]
      simp
    · rw[getI_st,if_neg (by omega),h3 j (by omega)]
    · rw[getI_st]
      by_cases hjn:n=j
      · subst hjn
        rw[if_pos ⟨rfl,by rw[h1.1];omega⟩,hv.2 r hr]
      · rw[if_neg (by omega),h4 j (by omega) r hr]
theorem sh_ok {b:List Int} (hb:B16 b):B16 (shF b)∧∀i,i<128→Bb (shF b) i=shB (Bb b) i:=by
  obtain⟨h1,h2,-,h4⟩:=sh_step hb 16 (by decide)
  have hc:lowI b 16=Bb b 0:=by simp[lowI,Bb]
  have hs:∀i,i<128→Bb (shI b 16).1 i=(decide (i<127)&&Bb b (i+1)):=fun i hi=>by
    unfold Bb
    rw[h4 _ (by omega) _ (by omega)]
    have hbt:Bt (getI b (15-i/8)):=hb.2.all (by decide) _
    by_cases h7:i%8=7
    · rw[h7,nb_hi8 hbt (by decide),lowI]
      by_cases hi2:i<127
      · rw[show 15-(i+1)/8=15-i/8-1 by omega,show (i+1)%8=0 by omega]
        simp[hi2,show 0<15-i/8 by omega]
      · simp[hi2,show ¬0<15-i/8 by omega]
    · rw[show (i+1)/8=i/8 by omega,show (i+1)%8=i%8+1 by omega]
      simp[h7,show i<127 by omega]
  unfold shF
  rw[h2,hc]
  obtain⟨s,hse⟩:∃s,(shI b 16).1=s:=⟨_,rfl⟩
  rw[hse]at h1 hs ⊢
  have b0:Bt (getI s 0):=h1.2.all (by decide) 0
  by_cases h0:Bb b 0=true
  · simp only[h0,if_true]
    have hx:Bt (bXor .u8 (getI s 0) 225):=x8_bd _ _
    refine⟨⟨by simp[h1.1],h1.2.set _ hx.1 hx.2⟩,fun i hi=>?_⟩
    rw[shB,←hs i hi,h0,Bool.true_and,cc]
    unfold Bb
    rw[getI_st]
    by_cases h120:120≤i
    · rw[if_pos ⟨by omega,by rw[h1.1];omega⟩,bt_xor b0 (show Bt 225 from ⟨by decide,by decide⟩),show 15-i/8=0 by omega,show i%8=i-120 by omega,show nb 225 (i-120)=Nat.testBit 225 (i-120)from nb_nat' (n:=225) rfl _]
      simp[h120]
    · rw[if_neg (by omega)]
      simp[h120]
  · have h0':Bb b 0=false:=by simpa using h0
    simp only[h0',Bool.false_eq_true,if_false]
    have:¬((0:Int)=1):=by decide
    rw[if_neg this]
    exact⟨h1,fun i hi=>by rw[shB,←hs i hi,h0'];simp⟩
theorem jn_bit {p b:List Int} (hp:B16 p) (hb:B16 b) {i:Nat} (hi:i<128):Bb (jn p b 16) i=(Bb p i ^^ Bb b i):=by
  unfold Bb
  rw[jn_get hp.1,if_pos (by omega),bt_xor (hp.2.all (by decide) _) (hb.2.all (by decide) _)]
theorem bk_bit {a:List Int} (ha:B16 a) {t:Nat} (ht:t<128):bkB a t=if Bb a (127-t)then 1 else 0:=by
  have hbt:Bt (getI a (t/8)):=ha.2.all (by decide) _
  have h:=bt_shr hbt (s:=7-t%8) (by omega)
  rw[bkB,bt_low h.1,h.2]
  unfold Bb
  rw[show 15-(127-t)/8=t/8 by omega,show (127-t)%8=0+(7-t%8) by omega]
theorem shB_congr {f g:Nat→Bool} (h:∀i,i<128→f i=g i) {i:Nat} (hi:i<128):shB f i=shB g i:=by
  unfold shB
  rw[h 0 (by omega)]
  by_cases h1:i<127
  · rw[h (i+1) (by omega)]
  · simp[h1]
theorem bk_agree {a b:List Int} (ha:B16 a) (hb:B16 b):∀n,n≤128→(B16 (bkI a b n).1∧B16 (bkI a b n).2)∧(W2 (tmI (ofF a).1 (ofF a).2 (ofF b).1 (ofF b).2 n).1∧W2 (tmI (ofF a).1 (ofF a).2 (ofF b).1 (ofF b).2 n).2) ∧
    ∀i,i<128→Hb (tmI (ofF a).1 (ofF a).2 (ofF b).1 (ofF b).2 n).1 i=Bb (bkI a b n).1 i∧Hb (tmI (ofF a).1 (ofF a).2 (ofF b).1 (ofF b).2 n).2 i=Bb (bkI a b n).2 i
  | 0,_=>by
    refine⟨⟨z16_ok,hb⟩,⟨⟨⟨by simp[tmI,itr],by simp[tmI,itr]⟩,⟨by simp[tmI,itr],by simp[tmI,itr]⟩⟩,of_w2 hb⟩,fun i hi=>⟨?_,of_bit hb hi⟩⟩
    have z:∀j,getI z16 j=0:=fun j=>by
      simp only[getI,z16,List.getD_eq_getElem?_getD,List.getElem?_replicate]
      split<;>rfl
    show Hb (0,0) i=Bb z16 i
    unfold Hb Bb
    rw[z]
    simp[nb]
  | n+1,hn=>by
    obtain⟨⟨c1,c2⟩,⟨w1,w2⟩,hbits⟩:=bk_agree ha hb n (by omega)
    have e1:bkI a b (n+1)=bkS a (bkI a b n) n:=rfl
    have e2:tmI (ofF a).1 (ofF a).2 (ofF b).1 (ofF b).2 (n+1)=tmS (ofF a).1 (ofF a).2 (tmI (ofF a).1 (ofF a).2 (ofF b).1 (ofF b).2 n) n:=rfl
    rw[e1,e2]
    obtain⟨⟨⟨p1,p2⟩,⟨q1,q2⟩⟩,hs⟩:∃s,tmI (ofF a).1 (ofF a).2 (ofF b).1 (ofF b).2 n=s:=⟨_,rfl⟩
    obtain⟨⟨p,q⟩,hr⟩:∃s,bkI a b n=s:=⟨_,rfl⟩
    rw[hs]at w1 w2 hbits ⊢
    rw[hr]at c1 c2 hbits ⊢
    simp only at w1 w2 c1 c2 hbits
    obtain⟨hw,hst⟩:=tm_step (of_w2 ha) w1 w2 (show n<128 by omega)
    have hsh:=sh_ok c2
    have hjo:=jn_ok (b:=q) c1
    rw[of_bit ha (show 127-n<128 by omega)]at hst
    have hB:=bk_bit ha (show n<128 by omega)
    refine⟨?_,hw,fun i hi=>?_⟩
    · unfold bkS
      simp only
      refine⟨?_,hsh.1⟩
      split
      · exact hjo
      · exact c1
    · rw[(hst i hi).1,(hst i hi).2]
      unfold bkS
      simp only
      refine⟨?_,?_⟩
      · rw[hB,(hbits i hi).1,(hbits i hi).2]
        cases Bb a (127-n)
        · rw[if_neg (by decide)];simp
        · rw[if_pos (by decide),jn_bit c1 c2 hi];simp
      · rw[hsh.2 i hi]
        exact shB_congr (fun j hj=>(hbits j hj).2) hi
theorem bk_ok {a b:List Int} (ha:B16 a) (hb:B16 b):B16 (bkF a b):=(bk_agree ha hb 128 (by decide)).1.1
theorem bk_of {a b:List Int} (ha:B16 a) (hb:B16 b):ofF (bkF a b)=timF (ofF a).1 (ofF a).2 (ofF b).1 (ofF b).2:=by
  obtain⟨⟨c1,-⟩,⟨w1,-⟩,hbits⟩:=bk_agree ha hb 128 (by decide)
  refine w2_ext (of_w2 (bk_ok ha hb)) w1 fun i hi=>?_
  rw[of_bit (bk_ok ha hb) hi]
  exact((hbits i hi).1).symm
theorem jn_of {a b:List Int} (ha:B16 a) (hb:B16 b):ofF (jn a b 16)=(bXor .u64 (ofF a).1 (ofF b).1,bXor .u64 (ofF a).2 (ofF b).2):=by
  have wa:=of_w2 ha
  have wb:=of_w2 hb
  have x1:=wd_xor wa.1 wb.1
  have x2:=wd_xor wa.2 wb.2
  have hj:=jn_ok (b:=b) ha
  refine w2_ext (of_w2 hj) ⟨x1.1,x2.1⟩ fun i hi=>?_
  rw[of_bit hj hi,jn_bit ha hb hi,←of_bit ha hi,←of_bit hb hi]
  by_cases h64:i<64
  · simp only[Hb_lo h64];rw[x2.2]
  · simp only[Hb_hi h64];rw[x1.2]
end Am
