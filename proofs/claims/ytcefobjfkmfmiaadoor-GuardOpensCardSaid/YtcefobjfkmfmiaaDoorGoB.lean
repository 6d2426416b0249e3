/-
Working texts: contracts of functions, and the numbers behind them.
-/
import Derived.Test.YtcefobjfkmfmiaaDoorGdA
import Derived.Test.YtcefobjfkmfmiaaDoorIrGo
set_option linter.unusedSimpArgs false
set_option linter.unusedVariables false
set_option linter.unusedSectionVars false
set_option maxRecDepth 20000
namespace Am
open Go.Proofs
/-! ### The number that is nearest, as the document has it -/
def F59:List D→Out
  | [.v (.int _ s),.v (.int _ n),.v (.int _ x)]=>.one (.v (.int .u64 (fullF s.toNat n.toNat x.toNat:Nat)))
  | _=>bad
def s59:Summ:=sData [.v,.v,.v] preFull F59
set_option maxHeartbeats 2000000 in
theorem ok59 {g:List Blk} [Ge gl g]:SumOK Tryd.prog g 59 s59∧SumAbs s59:=by
  refine fsumA (l:=[]) mixed gl_plain rfl Tryd.func59 comp59 compR59 nt59 (by simp) fun ds ⟨s,n,x,hd,hn1,hn4,hs,hx⟩ hA=>?_
  subst hd
  have hF:F59 [.v (.int .u64 (s:Int)),.v (.int .i64 (n:Int)),.v (.int .u64 (x:Int))]=.one (.v (.int .u64 (fullF s n x:Nat))):=rfl
  have w8:Go.IntKind.i64.wrap (8*(n:Int))=((8*n:Nat):Int):=by rw[wrap_i64];omega
  have hsh:=shl_pw n hn4
  have hfu:fullF s n x=if x/pw8 n*pw8 n+s%pw8 n+pw8 n/2≤x∧x/pw8 n*pw8 n+s%pw8 n<4611686018427387904-pw8 n then x/pw8 n*pw8 n+s%pw8 n+pw8 n else if x+pw8 n/2<x/pw8 n*pw8 n+s%pw8 n∧pw8 n≤x/pw8 n*pw8 n+s%pw8 n then x/pw8 n*pw8 n+s%pw8 n-pw8 n else x/pw8 n*pw8 n+s%pw8 n:=rfl
  have hW1:256≤pw8 n∧pw8 n≤4294967296:=by
    rcases (by omega:n=1∨n=2∨n=3∨n=4)with rfl | rfl | rfl | rfl<;>decide
  have hxm:x/pw8 n*pw8 n+x%pw8 n=x:=by rw[Nat.mul_comm];exact Nat.div_add_mod x (pw8 n)
  have hsm:s%pw8 n<pw8 n:=Nat.mod_lt s (by omega)
  have m1:(x:Int).tmod (pw8 n:Nat)=((x%pw8 n:Nat):Int):=tmod_nat
  have m2:(s:Int).tmod (pw8 n:Nat)=((s%pw8 n:Nat):Int):=tmod_nat
  obtain⟨y,hy⟩:∃y,x%pw8 n=y:=⟨_,rfl⟩
  obtain⟨z,hz⟩:∃z,s%pw8 n=z:=⟨_,rfl⟩
  obtain⟨q,hq⟩:∃q,x/pw8 n*pw8 n=q:=⟨_,rfl⟩
  rw[hy]at m1 hxm
  rw[hz]at m2 hfu hsm
  rw[hq]at hxm hfu
  obtain⟨W,hW⟩:∃W,pw8 n=W:=⟨_,rfl⟩
  rw[hW]at hsh hfu hW1 m1 m2 hsm
  have nW:¬(W:Int)=0:=by omega
  have n2:¬(2:Int)=0:=by decide
  have w1:Go.IntKind.u64.wrap ((x:Int)-(y:Int))=(q:Int):=by rw[wrap_u64];omega
  have w2:Go.IntKind.u64.wrap ((q:Int)+(z:Int))=((q+z:Nat):Int):=by rw[wrap_u64];omega
  obtain⟨c,hc⟩:∃c,q+z=c:=⟨_,rfl⟩
  rw[hc]at w2 hfu
  have wd:Go.IntKind.u64.wrap ((W:Int).tdiv 2)=((W/2:Nat):Int):=by
    rw[Int.tdiv_eq_ediv_of_nonneg (by omega),wrap_u64];omega
  have wm:Go.IntKind.u64.wrap (4611686018427387904-(W:Int))=((4611686018427387904-W:Nat):Int):=by rw[wrap_u64];omega
  have wp:Go.IntKind.u64.wrap ((c:Int)+(W:Int))=((c+W:Nat):Int):=by rw[wrap_u64];omega
  have fin2:¬(c+W/2≤x∧c<4611686018427387904-W)→(W≤c→Go.IntKind.u64.wrap ((c:Int)-((W/2:Nat):Int))=((c-W/2:Nat):Int)):=fun _ h=>by rw[wrap_u64];omega
  by_cases a1:c<4611686018427387904-W
  · have c1:(c:Int)<((4611686018427387904-W:Nat):Int):=by omega
    by_cases a2:W/2≤x
    · have c2:((W/2:Nat):Int)≤(x:Int):=by omega
      have wx:Go.IntKind.u64.wrap ((x:Int)-((W/2:Nat):Int))=((x-W/2:Nat):Int):=by rw[wrap_u64];omega
      by_cases a3:c≤x-W/2
      · have c3:(c:Int)≤((x-W/2:Nat):Int):=by omega
        rw[if_pos ⟨by omega,a1⟩]at hfu
        rw[hfu]at hF
        simp only[ir59,rs59,gl,hF,w8,hsh,nW,n2,m1,m2,w1,w2,wd,wm,wp,wx,c1,c2,c3,sub_zero,qdb,qai,List.length_cons,List.length_nil,Nat.reduceAdd,Nat.le_refl,Nat.reduceLeDiff,Nat.reduceLT,true_and,and_true,↓evA,evB,evs,evp,mkB,repB,blen,↓retQ,res,resAll,resOne,kill,apartOk,exp,injV,injB,pur,purs,purR,pursR,List.reduceReplicate,Nat.reduceMul,Nat.reduceSub,Nat.reduceEqDiff,Int.reduceToNat,Int.reduceLE,Int.reduceLT,Int.reduceEq,reduceCtorEq,↓reduceIte]
        repeat(first | exact out_int rfl | refine And.intro (by omega) ?_)
      · have c3:¬(c:Int)≤((x-W/2:Nat):Int):=by omega
        rw[if_neg (by omega)]at hfu
        by_cases a4:W≤c
        · have c4:(W:Int)≤(c:Int):=by omega
          have wv:Go.IntKind.u64.wrap ((c:Int)-((W/2:Nat):Int))=((c-W/2:Nat):Int):=by rw[wrap_u64];omega
          have wq:Go.IntKind.u64.wrap ((c:Int)-(W:Int))=((c-W:Nat):Int):=by rw[wrap_u64];omega
          by_cases a5:x<c-W/2
          · have c5:(x:Int)<((c-W/2:Nat):Int):=by omega
            rw[if_pos ⟨by omega,a4⟩]at hfu
            rw[hfu]at hF
            simp only[ir59,rs59,gl,hF,w8,hsh,nW,n2,m1,m2,w1,w2,wd,wm,wp,wx,wv,wq,c1,c2,c3,c4,c5,sub_zero,qdb,qai,List.length_cons,List.length_nil,Nat.reduceAdd,Nat.le_refl,Nat.reduceLeDiff,Nat.reduceLT,true_and,and_true,↓evA,evB,evs,evp,mkB,repB,blen,↓retQ,res,resAll,resOne,kill,apartOk,exp,injV,injB,pur,purs,purR,pursR,List.reduceReplicate,Nat.reduceMul,Nat.reduceSub,Nat.reduceEqDiff,Int.reduceToNat,Int.reduceLE,Int.reduceLT,Int.reduceEq,reduceCtorEq,↓reduceIte]
            repeat(first | exact out_int rfl | refine And.intro (by omega) ?_)
          · have c5:¬(x:Int)<((c-W/2:Nat):Int):=by omega
            rw[if_neg (by omega)]at hfu
            rw[hfu]at hF
            simp only[ir59,rs59,gl,hF,w8,hsh,nW,n2,m1,m2,w1,w2,wd,wm,wp,wx,wv,wq,c1,c2,c3,c4,c5,sub_zero,qdb,qai,List.length_cons,List.length_nil,Nat.reduceAdd,Nat.le_refl,Nat.reduceLeDiff,Nat.reduceLT,true_and,and_true,↓evA,evB,evs,evp,mkB,repB,blen,↓retQ,res,resAll,resOne,kill,apartOk,exp,injV,injB,pur,purs,purR,pursR,List.reduceReplicate,Nat.reduceMul,Nat.reduceSub,Nat.reduceEqDiff,Int.reduceToNat,Int.reduceLE,Int.reduceLT,Int.reduceEq,reduceCtorEq,↓reduceIte]
            repeat(first | exact out_int rfl | refine And.intro (by omega) ?_)
        · have c4:¬(W:Int)≤(c:Int):=by omega
          rw[if_neg (by omega)]at hfu
          rw[hfu]at hF
          simp only[ir59,rs59,gl,hF,w8,hsh,nW,n2,m1,m2,w1,w2,wd,wm,wp,wx,c1,c2,c3,c4,sub_zero,qdb,qai,List.length_cons,List.length_nil,Nat.reduceAdd,Nat.le_refl,Nat.reduceLeDiff,Nat.reduceLT,true_and,and_true,↓evA,evB,evs,evp,mkB,repB,blen,↓retQ,res,resAll,resOne,kill,apartOk,exp,injV,injB,pur,purs,purR,pursR,List.reduceReplicate,Nat.reduceMul,Nat.reduceSub,Nat.reduceEqDiff,Int.reduceToNat,Int.reduceLE,Int.reduceLT,Int.reduceEq,reduceCtorEq,↓reduceIte]
          repeat(first | exact out_int rfl | refine And.intro (by omega) ?_)
    · have c2:¬((W/2:Nat):Int)≤(x:Int):=by omega
      rw[if_neg (by omega)]at hfu
      by_cases a4:W≤c
      · have c4:(W:Int)≤(c:Int):=by omega
        have wv:Go.IntKind.u64.wrap ((c:Int)-((W/2:Nat):Int))=((c-W/2:Nat):Int):=by rw[wrap_u64];omega
        have wq:Go.IntKind.u64.wrap ((c:Int)-(W:Int))=((c-W:Nat):Int):=by rw[wrap_u64];omega
        by_cases a5:x<c-W/2
        · have c5:(x:Int)<((c-W/2:Nat):Int):=by omega
          rw[if_pos ⟨by omega,a4⟩]at hfu
          rw[hfu]at hF
          simp only[ir59,rs59,gl,hF,w8,hsh,nW,n2,m1,m2,w1,w2,wd,wm,wp,wv,wq,c1,c2,c4,c5,sub_zero,qdb,qai,List.length_cons,List.length_nil,Nat.reduceAdd,Nat.le_refl,Nat.reduceLeDiff,Nat.reduceLT,true_and,and_true,↓evA,evB,evs,evp,mkB,repB,blen,↓retQ,res,resAll,resOne,kill,apartOk,exp,injV,injB,pur,purs,purR,pursR,List.reduceReplicate,Nat.reduceMul,Nat.reduceSub,Nat.reduceEqDiff,Int.reduceToNat,Int.reduceLE,Int.reduceLT,Int.reduceEq,reduceCtorEq,↓reduceIte]
          repeat(first | exact out_int rfl | refine And.intro (by omega) ?_)
        · have c5:¬(x:Int)<((c-W/2:Nat):Int):=by omega
          rw[if_neg (by omega)]at hfu
          rw[hfu]at hF
          simp only[ir59,rs59,gl,hF,w8,hsh,nW,n2,m1,m2,w1,w2,wd,wm,wp,wv,wq,c1,c2,c4,c5,sub_zero,qdb,qai,List.length_cons,List.length_nil,Nat.reduceAdd,Nat.le_refl,Nat.reduceLeDiff,Nat.reduceLT,true_and,and_true,↓evA,evB,evs,evp,mkB,repB,blen,↓retQ,res,resAll,resOne,kill,apartOk,exp,injV,injB,pur,purs,purR,pursR,List.reduceReplicate,Nat.reduceMul,Nat.reduceSub,Nat.reduceEqDiff,Int.reduceToNat,Int.reduceLE,Int.reduceLT,Int.reduceEq,reduceCtorEq,↓reduceIte]
          repeat(first | exact out_int rfl | refine And.intro (by omega) ?_)
      · have c4:¬(W:Int)≤(c:Int):=by omega
        rw[if_neg (by omega)]at hfu
        rw[hfu]at hF
        simp only[ir59,rs59,gl,hF,w8,hsh,nW,n2,m1,m2,w1,w2,wd,wm,wp,c1,c2,c4,sub_zero,qdb,qai,List.length_cons,List.length_nil,Nat.reduceAdd,Nat.le_refl,Nat.reduceLeDiff,Nat.reduceLT,true_and,and_true,↓evA,evB,evs,evp,mkB,repB,blen,↓retQ,res,resAll,resOne,kill,apartOk,exp,injV,injB,pur,purs,purR,pursR,List.reduceReplicate,Nat.reduceMul,Nat.reduceSub,Nat.reduceEqDiff,Int.reduceToNat,Int.reduceLE,Int.reduceLT,Int.reduceEq,reduceCtorEq,↓reduceIte]
        repeat(first | exact out_int rfl | refine And.intro (by omega) ?_)
  · have c1:¬(c:Int)<((4611686018427387904-W:Nat):Int):=by omega
    rw[if_neg (by omega)]at hfu
    have c4:(W:Int)≤(c:Int):=by omega
    have wv:Go.IntKind.u64.wrap ((c:Int)-((W/2:Nat):Int))=((c-W/2:Nat):Int):=by rw[wrap_u64];omega
    have wq:Go.IntKind.u64.wrap ((c:Int)-(W:Int))=((c-W:Nat):Int):=by rw[wrap_u64];omega
    by_cases a5:x<c-W/2
    · have c5:(x:Int)<((c-W/2:Nat):Int):=by omega
      rw[if_pos ⟨by omega,by omega⟩]at hfu
      rw[hfu]at hF
      simp only[ir59,rs59,gl,hF,w8,hsh,nW,n2,m1,m2,w1,w2,wd,wm,wp,wv,wq,c1,c4,c5,sub_zero,qdb,qai,List.length_cons,List.length_nil,Nat.reduceAdd,Nat.le_refl,Nat.reduceLeDiff,Nat.reduceLT,true_and,and_true,↓evA,evB,evs,evp,mkB,repB,blen,↓retQ,res,resAll,resOne,kill,apartOk,exp,injV,injB,pur,purs,purR,pursR,List.reduceReplicate,Nat.reduceMul,Nat.reduceSub,Nat.reduceEqDiff,Int.reduceToNat,Int.reduceLE,Int.reduceLT,Int.reduceEq,reduceCtorEq,↓reduceIte]
      repeat(first | exact out_int rfl | refine And.intro (by omega) ?_)
    · have c5:¬(x:Int)<((c-W/2:Nat):Int):=by omega
      rw[if_neg (by omega)]at hfu
      rw[hfu]at hF
      simp only[ir59,rs59,gl,hF,w8,hsh,nW,n2,m1,m2,w1,w2,wd,wm,wp,wv,wq,c1,c4,c5,sub_zero,qdb,qai,List.length_cons,List.length_nil,Nat.reduceAdd,Nat.le_refl,Nat.reduceLeDiff,Nat.reduceLT,true_and,and_true,↓evA,evB,evs,evp,mkB,repB,blen,↓retQ,res,resAll,resOne,kill,apartOk,exp,injV,injB,pur,purs,purR,pursR,List.reduceReplicate,Nat.reduceMul,Nat.reduceSub,Nat.reduceEqDiff,Int.reduceToNat,Int.reduceLE,Int.reduceLT,Int.reduceEq,reduceCtorEq,↓reduceIte]
      repeat(first | exact out_int rfl | refine And.intro (by omega) ?_)
end Am
