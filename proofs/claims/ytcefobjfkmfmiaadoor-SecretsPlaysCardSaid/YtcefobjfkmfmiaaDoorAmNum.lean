/-
Numbers: lists of digits; what the small language's arithmetic is.
-/
import Derived.Test.YtcefobjfkmfmiaaDoorAmLoop
set_option linter.unusedSimpArgs false
set_option linter.unusedVariables false
set_option linter.unusedSectionVars false
namespace Am
open Go (IntKind BinOp UnOp FuncId)

/-! ### Wrapping -/
theorem wrap_u8 (n:Int):IntKind.u8.wrap n=n%256:=by simp[IntKind.wrap,IntKind.signed,IntKind.bits]
theorem wrap_u16 (n:Int):IntKind.u16.wrap n=n%65536:=by simp[IntKind.wrap,IntKind.signed,IntKind.bits]
theorem wrap_u32 (n:Int):IntKind.u32.wrap n=n%4294967296:=by simp[IntKind.wrap,IntKind.signed,IntKind.bits]
theorem wrap_u64 (n:Int):IntKind.u64.wrap n=n%18446744073709551616:=by simp[IntKind.wrap,IntKind.signed,IntKind.bits]
theorem wrap_i64 (n:Int):IntKind.i64.wrap n=(n+9223372036854775808)%18446744073709551616-9223372036854775808:=by
  simp[IntKind.wrap,IntKind.signed,IntKind.bits]
  split<;>omega
theorem iShr_eq (k:IntKind) (a b:Int):iShr k a b=a/2^(min b.toNat k.bits):=by
  unfold iShr
  rw[Int.fdiv_eq_ediv_of_nonneg]
  exact Int.le_of_lt (Int.pow_pos (by omega))

/-! ### Bits -/
theorem toNat_ofInt (k:Nat) (a:Int) (h0:0≤a) (h1:a<2^k):(BitVec.ofInt k a).toNat=a.toNat:=by
  rw[BitVec.toNat_ofInt]
  congr 1
  exact Int.emod_eq_of_lt h0 (by simpa using h1)
/-- The lowest bits. -/
theorem bAnd_mask (k:IntKind) (m:Nat) (a:Int) (h0:0≤a) (h1:a<2^k.bits) (hm:m≤k.bits) (hs:k.signed=false):bAnd k a (2^m-1)=a%2^m:=by
  have e2:((2:Int)^m-1)=((2^m-1:Nat):Int):=by
    have:1≤2^m:=Nat.one_le_two_pow
    rw[Int.ofNat_sub this];simp
  have hb:(2:Int)^m≤2^k.bits:=by
    have:(2:Nat)^m≤2^k.bits:=Nat.pow_le_pow_right (by omega) hm
    exact_mod_cast this
  have hp:(1:Int)≤2^m:=by
    have:1≤2^m:=Nat.one_le_two_pow
    exact_mod_cast this
  unfold bAnd
  rw[BitVec.toNat_and,toNat_ofInt _ _ h0 h1,toNat_ofInt _ (2^m-1) (by omega) (by omega),e2,Int.toNat_natCast,Nat.and_two_pow_sub_one_eq_mod]
  have e3:((a.toNat%2^m:Nat):Int)=a%2^m:=by
    rw[Int.natCast_emod,Int.toNat_of_nonneg h0];simp
  rw[e3]
  have l1:0≤a%2^m:=Int.emod_nonneg _ (by omega)
  have l2:a%2^m<2^m:=Int.emod_lt_of_pos _ (by omega)
  simp only[IntKind.wrap,hs,Bool.false_and]
  exact Int.emod_eq_of_lt l1 (by omega)
/-- What has no bit in common is added. -/
theorem bOr_add (k:IntKind) (m:Nat) (a b:Int) (h0:0≤a) (h1:a<2^k.bits) (ha:a%2^m=0) (b0:0≤b) (b1:b<2^m) (hm:m≤k.bits) (hs:k.signed=false):bOr k a b=a+b:=by
  have hb:(2:Int)^m≤2^k.bits:=by
    have:(2:Nat)^m≤2^k.bits:=Nat.pow_le_pow_right (by omega) hm
    exact_mod_cast this
  obtain⟨x,rfl⟩:=Int.eq_ofNat_of_zero_le h0
  obtain⟨y,rfl⟩:=Int.eq_ofNat_of_zero_le b0
  have ha':x%2^m=0:=by exact_mod_cast ha
  have hy:y<2^m:=by exact_mod_cast b1
  have hx:x<2^k.bits:=by exact_mod_cast h1
  have hbn:2^m≤2^k.bits:=by exact_mod_cast hb
  unfold bOr
  rw[BitVec.toNat_or,toNat_ofInt _ _ h0 h1,toNat_ofInt _ _ b0 (by omega),Int.toNat_natCast,Int.toNat_natCast]
  obtain⟨q,rfl⟩:∃q,x=2^m*q:=⟨x/2^m,by rw[Nat.mul_comm];exact(Nat.div_mul_cancel (Nat.dvd_of_mod_eq_zero ha')).symm⟩
  rw[←Nat.two_pow_add_eq_or_of_lt hy]
  have hlt:2^m*q+y<2^k.bits:=by
    obtain⟨d,hd⟩:=Nat.exists_eq_add_of_le hm
    rw[hd,Nat.pow_add]at hx ⊢
    have hq:q<2^d:=Nat.lt_of_mul_lt_mul_left hx
    calc 2^m*q+y<2^m*q+2^m:=by omega
      _=2^m*(q+1):=by rw[Nat.mul_add,Nat.mul_one]
      _≤2^m*2^d:=Nat.mul_le_mul_left _ hq
  simp only[IntKind.wrap,hs,Bool.false_and]
  have hl2:((2^m*q+y:Nat):Int)<2^k.bits:=by exact_mod_cast hlt
  have:=Int.emod_eq_of_lt (a:=((2^m*q+y:Nat):Int)) (by omega) hl2
  simp only[Bool.false_eq_true,if_false,this]
  simp

theorem out_ints {m:Nat} {k:IntKind} {xs ys:List Int} {hp:List Blk} (h:ys=xs):out m (.one (.v (.ints k xs))) (.ints k ys) hp:=by
  subst h;simp[out,outs,out1,pur]
theorem out_int {m:Nat} {k:IntKind} {x y:Int} {hp:List Blk} (h:y=x):out m (.one (.v (.int k x))) (.int k y) hp:=by
  subst h;simp[out,outs,out1,pur]
theorem out_bool {m:Nat} {x y:Bool} {hp:List Blk} (h:y=x):out m (.one (.v (.bool x))) (.bool y) hp:=by
  subst h;simp[out,outs,out1,pur]

/-! ### Lists -/
theorem getI_set (xs:List Int) (i j:Nat) (v:Int) (h:i<xs.length):getI (xs.set i v) j=if j=i then v else getI xs j:=by
  unfold getI
  simp only[List.getD_eq_getElem?_getD,List.getElem?_set]
  by_cases hij:i=j
  · subst hij;simp[h]
  · simp[hij,Ne.symm hij]
theorem getI_mem {xs:List Int} {i:Nat} (h:i<xs.length):getI xs i∈xs:=by
  unfold getI
  simp[h]
theorem getI_eq {xs:List Int} {i:Nat} (h:i<xs.length):getI xs i=xs[i]:=by simp[getI,h]
theorem sub_zero {α:Type} {xs:List α} {n:Nat} (h:xs.length=n):sub xs 0 n=xs:=by subst h;simp[sub]
theorem qdb {α:Type} {xs ys:List α} (h:ys.length=xs.length):spl xs 0 ys=ys:=by simp[spl,h]

/-- Digits in their bounds. -/
def Dig (B:Int) (xs:List Int):Prop:=∀x∈xs,0≤x∧x<B
/-- The number that digits are, the lowest first. -/
def val (B:Int):List Int→Int
  | []=>0
  | x::r=>x+B*val B r
/-- So many digits of a number. -/
def dig (B:Int):Nat→Int→List Int
  | 0,_=>[]
  | n+1,x=>x%B::dig B n (x/B)

theorem Dig.get {B:Int} {xs:List Int} (h:Dig B xs) {i:Nat} (hi:i<xs.length):0≤getI xs i∧getI xs i<B:=h _ (getI_mem hi)
theorem Dig.set {B:Int} {xs:List Int} (h:Dig B xs) (i:Nat) {v:Int} (h0:0≤v) (h1:v<B):Dig B (xs.set i v):=by
  intro x hx
  rcases List.mem_or_eq_of_mem_set hx with h' | rfl
  · exact h x h'
  · exact⟨h0,h1⟩
theorem Dig.take {B:Int} {xs:List Int} (h:Dig B xs) (i:Nat):Dig B (xs.take i):=fun x hx=>h x (List.mem_of_mem_take hx)
theorem Dig.drop {B:Int} {xs:List Int} (h:Dig B xs) (i:Nat):Dig B (xs.drop i):=fun x hx=>h x (List.mem_of_mem_drop hx)
theorem Dig.append {B:Int} {xs ys:List Int} (h:Dig B xs) (h':Dig B ys):Dig B (xs++ys):=fun x hx=>by
  rcases List.mem_append.1 hx with h1 | h1
  · exact h x h1
  · exact h' x h1
theorem Dig.replicate {B:Int} (n:Nat) (hB:0<B):Dig B (List.replicate n 0):=fun x hx=>by
  rw[(List.mem_replicate.1 hx).2];exact⟨by omega,hB⟩
theorem qai (B:Int):∀(n:Nat) (x:Int),(dig B n x).length=n
  | 0,_=>rfl
  | n+1,x=>by simp[dig,qai B n]
end Am
/-
Numbers as digits: more laws.
-/
namespace Am
open Go (IntKind BinOp UnOp FuncId)
theorem w64 {n:Int} (h1 : -9223372036854775808≤n) (h2:n<9223372036854775808):IntKind.i64.wrap n=n:=by rw[wrap_i64];omega
theorem wu64 {n:Int} (h1:0≤n) (h2:n<18446744073709551616):IntKind.u64.wrap n=n:=by rw[wrap_u64];omega
theorem w64_div {i k:Nat} (hi:i<9223372036854775808):IntKind.i64.wrap ((i:Int).tdiv (k:Int))=((i/k:Nat):Int):=by
  have h:i/k≤i:=Nat.div_le_self _ _
  rw[Int.tdiv_eq_ediv_of_nonneg (by omega),←Int.natCast_ediv]
  generalize i/k=q at h
  exact w64 (by omega) (by omega)
theorem tmod_nat {i k:Nat}:(i:Int).tmod (k:Int)=((i%k:Nat):Int):=by
  rw[Int.tmod_eq_emod_of_nonneg (by omega),←Int.natCast_emod]
theorem getI_of_le {xs:List Int} {i:Nat} (h:xs.length≤i):getI xs i=0:=by
  simp[getI,List.getElem?_eq_none h]
theorem getI_take {xs:List Int} {i j:Nat} (h:j<i):getI (xs.take i) j=getI xs j:=by simp[getI,List.getElem?_take,h]
theorem getI_append_left {xs ys:List Int} {i:Nat} (h:i<xs.length):getI (xs++ys) i=getI xs i:=by simp[getI,List.getElem?_append_left h]
theorem getI_append_right {xs ys:List Int} {i:Nat} (h:xs.length≤i):getI (xs++ys) i=getI ys (i-xs.length):=by simp[getI,List.getElem?_append_right h]
theorem getI_replicate {n i:Nat} {v:Int} (h:i<n):getI (List.replicate n v) i=v:=by simp[getI,h]
theorem getI_replicate0 (n i:Nat):getI (List.replicate n 0) i=0:=by
  rcases Nat.lt_or_ge i n with h | h
  · exact getI_replicate h
  · exact getI_of_le (by simpa using h)
theorem getI_map {xs:List Int} {f:Int→Int} {i:Nat} (h:i<xs.length):getI (xs.map f) i=f (getI xs i):=by simp[getI,h]
/-- Digits, also behind the end. -/
theorem Dig.all {B:Int} {xs:List Int} (h:Dig B xs) (hB:0<B) (i:Nat):0≤getI xs i∧getI xs i<B:=by
  rcases Nat.lt_or_ge i xs.length with hi | hi
  · exact h.get hi
  · rw[getI_of_le hi];omega
theorem w64_div4 {i:Nat} (hi:i<9223372036854775808):IntKind.i64.wrap ((i:Int).tdiv 4)=((i/4:Nat):Int):=w64_div (k:=4) hi
theorem tmod4 {i:Nat}:(i:Int).tmod 4=((i%4:Nat):Int):=tmod_nat (k:=4)
theorem qdd {α:Type} (xs:List α):sub xs 0 xs.length=xs:=sub_zero rfl
theorem qdc (B:Int) (n:Nat) (x:Int):sub (dig B n x) 0 n=dig B n x:=sub_zero (qai B n x)
theorem qde {α:Type} (n:Nat) (x:α):sub (List.replicate n x) 0 n=List.replicate n x:=sub_zero (List.length_replicate ..)
theorem allI_map (k:IntKind):∀xs:List Int,allI k (xs.map (V.int k))=some xs
  | []=>rfl
  | x::xs=>by simp[allI,allI_map k xs]
theorem agI_ints {k:IntKind} {xs:List Int} (h:xs≠[]):agI (xs.map (V.int k))=.ints k xs:=by
  cases xs with
  | nil=>exact absurd rfl h
  | cons x xs =>
    have:=allI_map k (x::xs)
    simp only[List.map_cons]at this ⊢
    simp only[agI,this]
end Am
/-
The lemmas that walks use, together.
-/
set_option maxRecDepth 10000
namespace Am
theorem evA:type_of% (And.intro @qav (And.intro @qaw (And.intro @qay (And.intro @qax (And.intro @qcw (And.intro @qbh (And.intro @qaz (And.intro @qcp (And.intro @qb1 (And.intro @qcm (And.intro @qb9 (And.intro @qci (And.intro @qcj (And.intro @qb2 (And.intro @qch (And.intro @qcn (And.intro @qb3 (And.intro @qck (And.intro @qcl (And.intro @qb4 (And.intro @qca (And.intro @qb8 (And.intro @qb7 (And.intro @qb6 (And.intro @qb5 (And.intro @qa3 (And.intro @qba (And.intro @qa4 (And.intro @qbb (And.intro @qa5 (And.intro @qbc (And.intro @qa6 (And.intro @qbd (And.intro @qa7 (And.intro @qbe (And.intro @qa8 (And.intro @qbf (And.intro @qa9 (And.intro @qbg (And.intro @qb0 (And.intro @qco (And.intro @z_sData (And.intro @qcs (And.intro @qct (And.intro @qcu (And.intro @qcr (And.intro @qcq (And.intro @qbk (And.intro @qbl (And.intro @qby (And.intro @qbt (And.intro @qbo (And.intro @qbs (And.intro @qbx (And.intro @qbu (And.intro @qbw (And.intro @qbv (And.intro @qbp (And.intro @qbn (And.intro @qbz (And.intro @qbq (And.intro @qbr (And.intro @qbm (And.intro @z_build (And.intro @z_bsl (And.intro @z_fill0 (And.intro @z_fillI (And.intro @z_fillA (And.intro @qe5 (And.intro @qe4 (And.intro @qe1 (And.intro @qe2 (And.intro @qex (And.intro @qe8 (And.intro @qe7 (And.intro @qe6 (And.intro @qey (And.intro @qez (And.intro @qe3 (And.intro @qc7 (And.intro @qc5 (And.intro @qc6 (And.intro @qfa (And.intro @qfb (And.intro @qfc (And.intro @qe9 (And.intro @qe0 (And.intro @qek (And.intro @qel (And.intro @qfe (And.intro @qfd (And.intro @qeo (And.intro @qdn (And.intro @qdv (And.intro @qec (And.intro @qed (And.intro @qeu (And.intro @qev (And.intro @qdr (And.intro @qds (And.intro @qdu (And.intro @qdt (And.intro @qd0 (And.intro @qew (And.intro @qdy (And.intro @qeq (And.intro @qdq (And.intro @qei (And.intro @qer (And.intro @qes (And.intro @qet (And.intro @qd4 (And.intro @qd3 (And.intro @qd5 (And.intro @qd6 (And.intro @qd8 (And.intro @qd2 (And.intro @qd9 (And.intro @qeb (And.intro @qea (And.intro @qdo (And.intro @qdp (And.intro @qd1 (And.intro @qau (And.intro @qdz (And.intro @qej (And.intro @qef (And.intro @qdm (And.intro @qem (And.intro @qeg (And.intro @qep (And.intro @qeh (And.intro @qen (And.intro @qcb (And.intro @qcc (And.intro @qcd (And.intro @qce (And.intro @qcf (And.intro @qcg (And.intro @qee (And.intro @qd7 (And.intro @qdg (And.intro @qdf (And.intro @qdh (And.intro @qag (And.intro @qaf @qah)))))))))))))))))))))))))))))))))))))))))))))))))))))))))))))))))))))))))))))))))))))))))))))))))))))))))))))))))))))))))))))))))))))))))))))))))) :=
  And.intro @qav (And.intro @qaw (And.intro @qay (And.intro @qax (And.intro @qcw (And.intro @qbh (And.intro @qaz (And.intro @qcp (And.intro @qb1 (And.intro @qcm (And.intro @qb9 (And.intro @qci (And.intro @qcj (And.intro @qb2 (And.intro @qch (And.intro @qcn (And.intro @qb3 (And.intro @qck (And.intro @qcl (And.intro @qb4 (And.intro @qca (And.intro @qb8 (And.intro @qb7 (And.intro @qb6 (And.intro @qb5 (And.intro @qa3 (And.intro @qba (And.intro @qa4 (And.intro @qbb (And.intro @qa5 (And.intro @qbc (And.intro @qa6 (And.intro @qbd (And.intro @qa7 (And.intro @qbe (And.intro @qa8 (And.intro @qbf (And.intro @qa9 (And.intro @qbg (And.intro @qb0 (And.intro @qco (And.intro @z_sData (And.intro @qcs (And.intro @qct (And.intro @qcu (And.intro @qcr (And.intro @qcq (And.intro @qbk (And.intro @qbl (And.intro @qby (And.intro @qbt (And.intro @qbo (And.intro @qbs (And.intro @qbx (And.intro @qbu (And.intro @qbw (And.intro @qbv (And.intro @qbp (And.intro @qbn (And.intro @qbz (And.intro @qbq (And.intro @qbr (And.intro @qbm (And.intro @z_build (And.intro @z_bsl (And.intro @z_fill0 (And.intro @z_fillI (And.intro @z_fillA (And.intro @qe5 (And.intro @qe4 (And.intro @qe1 (And.intro @qe2 (And.intro @qex (And.intro @qe8 (And.intro @qe7 (And.intro @qe6 (And.intro @qey (And.intro @qez (And.intro @qe3 (And.intro @qc7 (And.intro @qc5 (And.intro @qc6 (And.intro @qfa (And.intro @qfb (And.intro @qfc (And.intro @qe9 (And.intro @qe0 (And.intro @qek (And.intro @qel (And.intro @qfe (And.intro @qfd (And.intro @qeo (And.intro @qdn (And.intro @qdv (And.intro @qec (And.intro @qed (And.intro @qeu (And.intro @qev (And.intro @qdr (And.intro @qds (And.intro @qdu (And.intro @qdt (And.intro @qd0 (And.intro @qew (And.intro @qdy (And.intro @qeq (And.intro @qdq (And.intro @qei (And.intro @qer (And.intro @qes (And.intro @qet (And.intro @qd4 (And.intro @qd3 (And.intro @qd5 (And.intro @qd6 (And.intro @qd8 (And.intro @qd2 (And.intro @qd9 (And.intro @qeb (And.intro @qea (And.intro @qdo (And.intro @qdp (And.intro @qd1 (And.intro @qau (And.intro @qdz (And.intro @qej (And.intro @qef (And.intro @qdm (And.intro @qem (And.intro @qeg (And.intro @qep (And.intro @qeh (And.intro @qen (And.intro @qcb (And.intro @qcc (And.intro @qcd (And.intro @qce (And.intro @qcf (And.intro @qcg (And.intro @qee (And.intro @qd7 (And.intro @qdg (And.intro @qdf (And.intro @qdh (And.intro @qag (And.intro @qaf @qah)))))))))))))))))))))))))))))))))))))))))))))))))))))))))))))))))))))))))))))))))))))))))))))))))))))))))))))))))))))))))))))))))))))))))))))))))
theorem evB:type_of% (And.intro @qda (And.intro @qaa (And.intro @qc8 (And.intro @qc9 (And.intro @qcx (And.intro @qcy (And.intro @qat (And.intro @List.drop_zero.{0} (And.intro @Nat.sub_zero (And.intro @nth_asl (And.intro @look_cons (And.intro @look_nil (And.intro @upd_asl (And.intro @enumV_nil (And.intro @enumV_cons (And.intro @asl_length (And.intro @List.map_cons.{0,0} (And.intro @List.map_nil.{0,0} (And.intro @List.zip_cons_cons.{0,0} (And.intro @List.zip_nil_right.{0,0} (And.intro @List.zip_nil_left.{0,0} (And.intro @qas (And.intro @qae (And.intro @qad (And.intro @qac (And.intro @qab (And.intro @qc4 (And.intro @qc3 (And.intro @qdk (And.intro @qdl (And.intro @qdi (And.intro @qdj (And.intro @qc1 (And.intro @qc2 (And.intro @qcz (And.intro @qc0 (And.intro @List.set_cons_zero.{0} (And.intro @List.set_cons_succ.{0} (And.intro @List.length_cons.{0} (And.intro @List.length_nil.{0} (And.intro @List.cons_append.{0} (And.intro @List.nil_append.{0} (And.intro @List.append_nil.{0} (And.intro @List.append_assoc.{0} (And.intro @List.length_append.{0} (And.intro @Nat.zero_add (And.intro @Nat.add_zero (And.intro @Nat.mul_one (And.intro @Int.toNat_natCast (And.intro @Int.cast_ofNat_Int (And.intro @Bool.true_eq_false (And.intro @Bool.false_eq_true (And.intro @Bool.not_true (And.intro @Bool.not_false (And.intro @true_and (And.intro @and_true (And.intro @and_assoc (And.intro @qai (And.intro @sub1 (And.intro @qdd (And.intro @qdc (And.intro @qde (And.intro @List.length_replicate.{0} (And.intro @Nat.le_refl (And.intro @false_implies (And.intro @true_implies (And.intro @ne_eq.{1} (And.intro @not_true_eq_false (And.intro @not_false_eq_true (And.intro @decide_true (And.intro @decide_false (And.intro @decide_eq_true_eq (And.intro @decide_eq_false_iff_not (And.intro @Bool.not_eq_true' @Bool.not_eq_false')))))))))))))))))))))))))))))))))))))))))))))))))))))))))))))))))))))))))) :=
  And.intro @qda (And.intro @qaa (And.intro @qc8 (And.intro @qc9 (And.intro @qcx (And.intro @qcy (And.intro @qat (And.intro @List.drop_zero.{0} (And.intro @Nat.sub_zero (And.intro @nth_asl (And.intro @look_cons (And.intro @look_nil (And.intro @upd_asl (And.intro @enumV_nil (And.intro @enumV_cons (And.intro @asl_length (And.intro @List.map_cons.{0,0} (And.intro @List.map_nil.{0,0} (And.intro @List.zip_cons_cons.{0,0} (And.intro @List.zip_nil_right.{0,0} (And.intro @List.zip_nil_left.{0,0} (And.intro @qas (And.intro @qae (And.intro @qad (And.intro @qac (And.intro @qab (And.intro @qc4 (And.intro @qc3 (And.intro @qdk (And.intro @qdl (And.intro @qdi (And.intro @qdj (And.intro @qc1 (And.intro @qc2 (And.intro @qcz (And.intro @qc0 (And.intro @List.set_cons_zero.{0} (And.intro @List.set_cons_succ.{0} (And.intro @List.length_cons.{0} (And.intro @List.length_nil.{0} (And.intro @List.cons_append.{0} (And.intro @List.nil_append.{0} (And.intro @List.append_nil.{0} (And.intro @List.append_assoc.{0} (And.intro @List.length_append.{0} (And.intro @Nat.zero_add (And.intro @Nat.add_zero (And.intro @Nat.mul_one (And.intro @Int.toNat_natCast (And.intro @Int.cast_ofNat_Int (And.intro @Bool.true_eq_false (And.intro @Bool.false_eq_true (And.intro @Bool.not_true (And.intro @Bool.not_false (And.intro @true_and (And.intro @and_true (And.intro @and_assoc (And.intro @qai (And.intro @sub1 (And.intro @qdd (And.intro @qdc (And.intro @qde (And.intro @List.length_replicate.{0} (And.intro @Nat.le_refl (And.intro @false_implies (And.intro @true_implies (And.intro @ne_eq.{1} (And.intro @not_true_eq_false (And.intro @not_false_eq_true (And.intro @decide_true (And.intro @decide_false (And.intro @decide_eq_true_eq (And.intro @decide_eq_false_iff_not (And.intro @Bool.not_eq_true' @Bool.not_eq_false')))))))))))))))))))))))))))))))))))))))))))))))))))))))))))))))))))))))))
end Am
