/-
Working texts: contracts of functions, and the numbers behind them.
-/
import Derived.Test.YtkchoojcficjgaaFlZ
import Derived.Test.YtkchoojcficjgaaIrC
set_option linter.unusedSimpArgs false
set_option linter.unusedVariables false
set_option linter.unusedSectionVars false
set_option linter.unusedSimpArgs false
set_option linter.unusedVariables false
set_option maxRecDepth 20000
namespace Am
open Go.Proofs
/-! ### The ladder, as numbers -/
structure Q4 where
  a : Int
  b : Int
  c : Int
  d : Int
def Q4.sw (S : Q4) : Q4 := ⟨S.c, S.d, S.a, S.b⟩
def lst (x : Int) (S : Q4) : Q4 :=
  let s := (S.a + S.b) % Pp
  let t := (S.a - S.b) % Pp
  let u := (S.c - S.d) % Pp * s % Pp
  let v := (S.c + S.d) % Pp * t % Pp
  let ss := s * s % Pp
  let tt := t * t % Pp
  let e := (ss - tt) % Pp
  let p := (u + v) % Pp
  let q := (u - v) % Pp
  ⟨ss * tt % Pp, e * ((ss + 121665 * e % Pp) % Pp) % Pp, p * p % Pp, x * (q * q % Pp) % Pp⟩
def rst (x K : Int) (i : Nat) (S : Q4) : Q4 := if K / 2 ^ i % 2 = 1 then (lst x S.sw).sw else lst x S
def lad (x K : Int) : Nat → Q4 → Q4
  | 0, S => S
  | n + 1, S => lad x K n (rst x K n S)
def ladR (S : Q4) : Int := S.a * pw S.b (Pp - 2) % Pp
def ckl (k : List Int) : List Int := (k.set 0 (getI k 0 - getI k 0 % 8)).set 31 (getI k 31 % 64 + 64)
def shv (k p : List Int) : Int := ladR (lad (kv p) (val 256 (ckl k)) 255 ⟨1, 0, kv p, 1⟩)
theorem ckl_key {k : List Int} (h : Key k) : Key (ckl k) := by
  have h0 := h.2.all (by decide) 0
  have h1 := h.2.all (by decide) 31
  exact ⟨by simp [ckl, h.1], (h.2.set _ (by omega) (by omega)).set _ (by omega) (by omega)⟩
theorem kv_bd (k : List Int) : 0 ≤ kv k ∧ kv k < Pp := ⟨Int.emod_nonneg _ (by decide), Int.emod_lt_of_pos _ (by decide)⟩
theorem bits8 (p : Int → Prop) (hp : ∀ n : Nat, n < 256 → p (n : Int)) {x : Int} (h : 0 ≤ x ∧ x < 256) : p x := by
  obtain ⟨n, rfl⟩ := Int.eq_ofNat_of_zero_le h.1
  exact hp n (by omega)
theorem and248 {x : Int} (h : 0 ≤ x ∧ x < 256) : bAnd .u8 x 248 = x - x % 8 := bits8 (fun x => bAnd .u8 x 248 = x - x % 8) (by decide +kernel) h
theorem or64 {x : Int} (h : 0 ≤ x ∧ x < 256) : bOr .u8 (bAnd .u8 x 127) 64 = x % 64 + 64 := bits8 (fun x => bOr .u8 (bAnd .u8 x 127) 64 = x % 64 + 64) (by decide +kernel) h
def FClamp : List D → Out
  | [.v (.ints _ k)] => .one (.v (.ints .u8 (ckl k)))
  | _ => bad
def F52 : List D → Out
  | [.v (.ints _ k)] => .one (.v (.ints .u8 (ckl k)))
  | _ => bad
def s52 : Summ := sData [.v] preKey F52
theorem ok52 {g : List Blk} [Ge gl g] : SumOK Try.prog g 52 s52 ∧ SumAbs s52 := by
  refine fsumA (l := []) mixed gl_plain rfl Try.func52 comp52 compR52 nt52 (by simp) fun ds ⟨k, hd, hk⟩ hA => ?_
  subst hd
  have hl := hk.1
  have h0 := and248 (hk.2.all (by decide) 0)
  have g31 : ∀ v, getI (k.set 0 v) 31 = getI k 31 := fun v => by rw [getI_set _ _ _ _ (by omega), if_neg (by decide)]
  have h1 := or64 (hk.2.all (by decide) 31)
  have hc : (k.set 0 (getI k 0 - getI k 0 % 8)).set 31 (getI k 31 % 64 + 64) = ckl k := rfl
  have hcl := (ckl_key hk).1
  have sc : sub (ckl k) 0 32 = ckl k := qdc hcl
  have spc : spl [0, 0, 0, 0, 0, 0, 0, 0, 0, 0, 0, 0, 0, 0, 0, 0, 0, 0, 0, 0, 0, 0, 0, 0, 0, 0, 0, 0, 0, 0, 0, 0] 0 (ckl k) = ckl k := qc8 (by simp [hcl])
  simp only [ir52,rs52,gl,F52,hl,h0,g31,h1,hc,hcl,sc,spc,List.length_set,qdc,qc8,qaj,List.length_cons,List.length_nil,Nat.reduceAdd,Nat.le_refl,Nat.reduceLeDiff,Nat.reduceLT,true_and,and_true,↓qax,↓qay,↓qa0,↓qaz,↓qcu,↓qbj,↓qa1,↓qcm,↓qb3,↓qcj,↓qcb,↓qcf,↓qcg,↓qb4,↓qce,↓qck,↓qb5,↓qch,↓qci,↓qb6,↓qcc,↓qca,↓qb9,↓qb8,↓qb7,↓qa5,↓qbc,↓qa6,↓qbd,↓qa7,↓qbe,↓qa8,↓qbf,↓qa9,↓qbg,↓qba,↓qbh,↓qbb,↓qbi,↓qb2,↓qcl,↓qfe,↓qcp,↓qcq,↓qcr,↓qco,↓qcn,↓qbm,↓qbn,↓qb0,↓qbv,↓qbq,↓qbu,↓qbz,↓qbw,↓qby,↓qbx,↓qbr,↓qbp,↓qb1,↓qbs,↓qbt,↓qbo,↓qe1,↓qe0,↓qe5,↓qe7,↓qe6,↓qez,↓qey,↓qev,↓qew,↓qe4,↓qe3,↓qe2,qc7,↓qes,↓qet,↓qex,↓qc6,↓qc4,↓qc5,↓qe9,↓qfa,↓qfb,↓qe8,qaa,↓qeu,↓qeh,↓qei,↓qfd,↓qfc,↓qek,↓qdm,↓qdu,↓qeb,↓qec,↓qep,↓qeq,↓qdq,↓qdr,↓qdt,↓qds,↓qdz,↓qer,↓qdx,↓qel,↓qdp,↓qef,↓qem,↓qen,↓qeo,↓qd3,↓qd2,↓qd4,↓qd5,↓qd7,↓qd1,↓qd8,↓qea,↓qd9,↓qdn,↓qdo,↓qd0,↓qaw,↓qdy,↓qeg,↓qee,↓qdl,↓qej,↓qed,↓qd6,qav,List.drop_zero,Nat.sub_zero,qc0,qcv,qcw,qdj,qat,qas,qaf,List.map_cons,List.map_nil,List.zip_cons_cons,List.zip_nil_right,List.zip_nil_left,qau,evs,evp,mkB,repB,blen,qae,qad,qac,qab,qc3,qc2,qdi,qdk,qdg,qdh,qcz,qc1,qcx,qcy,↓qde,↓qdd,↓qdf,↓qah,↓qag,↓qai,↓retQ,res,resAll,resOne,kill,apartOk,exp,injV,injB,pur,purs,purR,pursR,List.set_cons_zero,List.set_cons_succ,List.length_cons,List.length_nil,List.cons_append,List.nil_append,List.append_nil,List.append_assoc,List.length_append,List.reduceReplicate,Nat.reduceAdd,Nat.reduceMul,Nat.reduceSub,Nat.reduceEqDiff,Nat.reduceLT,Nat.zero_add,Nat.add_zero,Nat.mul_one,Int.reduceToNat,Int.toNat_natCast,Int.cast_ofNat_Int,Int.reduceLE,Int.reduceLT,Int.reduceEq,reduceCtorEq,↓reduceIte,Bool.true_eq_false,Bool.false_eq_true,Bool.not_true,Bool.not_false,true_and,and_true,and_assoc,qaj,sub1,qda,qc9,qdb,List.length_replicate,Nat.le_refl,false_implies,true_implies,ne_eq,not_true_eq_false,not_false_eq_true,decide_true,decide_false,decide_eq_true_eq,decide_eq_false_iff_not,Bool.not_eq_true',Bool.not_eq_false']
  repeat (refine And.intro (by omega) ?_)
  simp only [out, outs, out1, pur, and_self]
def F53 : List D → Out
  | [.v (.ints _ k)] => .one (.v (.ints .u8 (ckl k)))
  | _ => bad
def s53 : Summ := sData [.v] preKey F53
theorem ok53 {g : List Blk} [Ge gl g] : SumOK Try.prog g 53 s53 ∧ SumAbs s53 := by
  refine fsumA (l := []) mixed gl_plain rfl Try.func53 comp53 compR53 nt53 (by simp) fun ds ⟨k, hd, hk⟩ hA => ?_
  subst hd
  have hl := hk.1
  have b0 := hk.2.all (by decide) 0
  have b31 := hk.2.all (by decide) 31
  have t0 : (getI k 0).tmod 8 = getI k 0 % 8 := Int.tmod_eq_emod_of_nonneg b0.1
  have t31 : (getI k 31).tmod 64 = getI k 31 % 64 := Int.tmod_eq_emod_of_nonneg b31.1
  have w0 : Go.IntKind.u8.wrap (getI k 0 - getI k 0 % 8) = getI k 0 - getI k 0 % 8 := by rw [wrap_u8]; omega
  have w31 : Go.IntKind.u8.wrap (getI k 31 % 64 + 64) = getI k 31 % 64 + 64 := by rw [wrap_u8]; omega
  have g31 : ∀ v, getI (k.set 0 v) 31 = getI k 31 := fun v => by rw [getI_set _ _ _ _ (by omega), if_neg (by decide)]
  have hc : (k.set 0 (getI k 0 - getI k 0 % 8)).set 31 (getI k 31 % 64 + 64) = ckl k := rfl
  have hcl := (ckl_key hk).1
  have sc : sub (ckl k) 0 32 = ckl k := qdc hcl
  have spc : spl [0, 0, 0, 0, 0, 0, 0, 0, 0, 0, 0, 0, 0, 0, 0, 0, 0, 0, 0, 0, 0, 0, 0, 0, 0, 0, 0, 0, 0, 0, 0, 0] 0 (ckl k) = ckl k := qc8 (by simp [hcl])
  have n8 : ¬ (8 : Int) = 0 := by decide
  have n64 : ¬ (64 : Int) = 0 := by decide
  simp only [ir53,rs53,gl,F53,hl,t0,t31,w0,w31,g31,n8,n64,hc,hcl,sc,spc,List.length_set,qdc,qc8,qaj,List.length_cons,List.length_nil,Nat.reduceAdd,Nat.le_refl,Nat.reduceLeDiff,Nat.reduceLT,true_and,and_true,↓qax,↓qay,↓qa0,↓qaz,↓qcu,↓qbj,↓qa1,↓qcm,↓qb3,↓qcj,↓qcb,↓qcf,↓qcg,↓qb4,↓qce,↓qck,↓qb5,↓qch,↓qci,↓qb6,↓qcc,↓qca,↓qb9,↓qb8,↓qb7,↓qa5,↓qbc,↓qa6,↓qbd,↓qa7,↓qbe,↓qa8,↓qbf,↓qa9,↓qbg,↓qba,↓qbh,↓qbb,↓qbi,↓qb2,↓qcl,↓qfe,↓qcp,↓qcq,↓qcr,↓qco,↓qcn,↓qbm,↓qbn,↓qb0,↓qbv,↓qbq,↓qbu,↓qbz,↓qbw,↓qby,↓qbx,↓qbr,↓qbp,↓qb1,↓qbs,↓qbt,↓qbo,↓qe1,↓qe0,↓qe5,↓qe7,↓qe6,↓qez,↓qey,↓qev,↓qew,↓qe4,↓qe3,↓qe2,qc7,↓qes,↓qet,↓qex,↓qc6,↓qc4,↓qc5,↓qe9,↓qfa,↓qfb,↓qe8,qaa,↓qeu,↓qeh,↓qei,↓qfd,↓qfc,↓qek,↓qdm,↓qdu,↓qeb,↓qec,↓qep,↓qeq,↓qdq,↓qdr,↓qdt,↓qds,↓qdz,↓qer,↓qdx,↓qel,↓qdp,↓qef,↓qem,↓qen,↓qeo,↓qd3,↓qd2,↓qd4,↓qd5,↓qd7,↓qd1,↓qd8,↓qea,↓qd9,↓qdn,↓qdo,↓qd0,↓qaw,↓qdy,↓qeg,↓qee,↓qdl,↓qej,↓qed,↓qd6,qav,List.drop_zero,Nat.sub_zero,qc0,qcv,qcw,qdj,qat,qas,qaf,List.map_cons,List.map_nil,List.zip_cons_cons,List.zip_nil_right,List.zip_nil_left,qau,evs,evp,mkB,repB,blen,qae,qad,qac,qab,qc3,qc2,qdi,qdk,qdg,qdh,qcz,qc1,qcx,qcy,↓qde,↓qdd,↓qdf,↓qah,↓qag,↓qai,↓retQ,res,resAll,resOne,kill,apartOk,exp,injV,injB,pur,purs,purR,pursR,List.set_cons_zero,List.set_cons_succ,List.length_cons,List.length_nil,List.cons_append,List.nil_append,List.append_nil,List.append_assoc,List.length_append,List.reduceReplicate,Nat.reduceAdd,Nat.reduceMul,Nat.reduceSub,Nat.reduceEqDiff,Nat.reduceLT,Nat.zero_add,Nat.add_zero,Nat.mul_one,Int.reduceToNat,Int.toNat_natCast,Int.cast_ofNat_Int,Int.reduceLE,Int.reduceLT,Int.reduceEq,reduceCtorEq,↓reduceIte,Bool.true_eq_false,Bool.false_eq_true,Bool.not_true,Bool.not_false,true_and,and_true,and_assoc,qaj,sub1,qda,qc9,qdb,List.length_replicate,Nat.le_refl,false_implies,true_implies,ne_eq,not_true_eq_false,not_false_eq_true,decide_true,decide_false,decide_eq_true_eq,decide_eq_false_iff_not,Bool.not_eq_true',Bool.not_eq_false']
  repeat (refine And.intro (by omega) ?_)
  simp only [out, outs, out1, pur, and_self]
/-- What changing for one another leaves. -/
theorem sw_el {s b : Int} (hs : s = 0 ∨ s = 1) (hb : b = 0 ∨ b = 1) {X Y : List Int} {x y : Int} (h0 : s = 0 → El X x ∧ El Y y) (h1 : s = 1 → El X y ∧ El Y x) :
    (b = 1 → El (swF (bXor .u64 s b) X Y).1 y ∧ El (swF (bXor .u64 s b) X Y).2 x) ∧ (¬ b = 1 → El (swF (bXor .u64 s b) X Y).1 x ∧ El (swF (bXor .u64 s b) X Y).2 y) := by
  rcases hs with rfl | rfl <;> rcases hb with rfl | rfl
  · rw [show bXor .u64 0 0 = 0 from rfl]; exact ⟨fun h => absurd h (by decide), fun _ => h0 rfl⟩
  · rw [show bXor .u64 0 1 = 1 from rfl]; exact ⟨fun _ => ⟨(h0 rfl).2, (h0 rfl).1⟩, fun h => absurd rfl h⟩
  · rw [show bXor .u64 1 0 = 1 from rfl]; exact ⟨fun h => absurd h (by decide), fun _ => ⟨(h1 rfl).2, (h1 rfl).1⟩⟩
  · rw [show bXor .u64 1 1 = 0 from rfl]; exact ⟨fun _ => h1 rfl, fun h => absurd rfl h⟩
theorem xor_bd01 {s b : Int} (hs : s = 0 ∨ s = 1) (hb : b = 0 ∨ b = 1) : 0 ≤ bXor .u64 s b ∧ bXor .u64 s b < 18446744073709551616 := xor_bd s b
theorem sw_fin {s : Int} (hs : s = 0 ∨ s = 1) {X Y : List Int} {x y : Int} (h0 : s = 0 → El X x ∧ El Y y) (h1 : s = 1 → El X y ∧ El Y x) : El (swF s X Y).1 x ∧ El (swF s X Y).2 y := by
  rcases hs with rfl | rfl
  · exact h0 rfl
  · exact ⟨(h1 rfl).2, (h1 rfl).1⟩
end Am
set_option linter.unusedSimpArgs false
set_option linter.unusedVariables false
set_option maxRecDepth 20000
namespace Am
open Go.Proofs
/-! ### The program's ladder -/
structure Ms where
  n : Nat
  X2 : List Int
  Z2 : List Int
  X3 : List Int
  Z3 : List Int
  w : Int
  S : Q4
def Ms.Ok (m : Ms) : Prop := (m.w = 0 ∨ m.w = 1) ∧ (m.w = 0 → El m.X2 m.S.a ∧ El m.X3 m.S.c) ∧ (m.w = 1 → El m.X2 m.S.c ∧ El m.X3 m.S.a) ∧ (m.w = 0 → El m.Z2 m.S.b ∧ El m.Z3 m.S.d) ∧ (m.w = 1 → El m.Z2 m.S.d ∧ El m.Z3 m.S.b)
theorem Ms.fv {m : Ms} (h : m.Ok) : Fv 4503599627370496 m.X2 ∧ Fv 4503599627370496 m.Z2 ∧ Fv 4503599627370496 m.X3 ∧ Fv 4503599627370496 m.Z3 := by
  obtain ⟨h0, h1, h2, h3, h4⟩ := h
  rcases h0 with h | h
  · exact ⟨(h1 h).1.1, (h3 h).1.1, (h1 h).2.1, (h3 h).2.1⟩
  · exact ⟨(h2 h).1.1, (h4 h).1.1, (h2 h).2.1, (h4 h).2.1⟩
def F51 : List D → Out
  | [.v (.ints _ k), .v (.ints _ p)] => .one (.v (.ints .u8 (dig 256 32 (shv k p))))
  | _ => bad
def s51 : Summ := sData [.v, .v] preKK F51
set_option maxHeartbeats 4000000 in
theorem ok51 {g : List Blk} [Ge gl g] : SumOK Try.prog g 51 s51 ∧ SumAbs s51 := by
  refine fsumA (l := [(52, s52), (24, s24), (36, s36), (40, s40), (38, s38), (42, s42), (39, s39), (31, s31), (27, s27)]) mixed gl_plain rfl Try.func51 comp51 compR51 nt51 (by simp only [List.mem_cons, List.not_mem_nil, or_false, forall_eq_or_imp, forall_eq]; exact ⟨ok52, ok24, ok36, ok40, ok38, ok42, ok39, ok31, ok27⟩) fun ds ⟨k, pl, hd, hk, hpl⟩ hA => ?_
  subst hd
  have hkl := hk.1
  have hpl1 := hpl.1
  have sk : sub k 0 32 = k := qdc hkl
  have spl' : sub pl 0 32 = pl := qdc hpl1
  have k1 := hk.p
  have k2 := hpl.p1
  have hkc := ckl_key hk
  obtain ⟨kc, hkcc⟩ : ∃ kc, ckl k = kc := ⟨_, rfl⟩
  have hshv : shv k pl = ladR (lad (kv pl) (val 256 kc) 255 ⟨1, 0, kv pl, 1⟩) := by rw [← hkcc]; rfl
  rw [hkcc] at hkc
  have hkcl := hkc.1
  have spk : spl [0, 0, 0, 0, 0, 0, 0, 0, 0, 0, 0, 0, 0, 0, 0, 0, 0, 0, 0, 0, 0, 0, 0, 0, 0, 0, 0, 0, 0, 0, 0, 0] 0 kc = kc := qc8 (by simp [hkcl])
  have hX := xo_el hpl
  obtain ⟨LX, hXX⟩ : ∃ X, xo pl = X := ⟨_, rfl⟩
  have hXX' : dig 2251799813685248 5 (val 256 pl) = LX := hXX
  rw [hXX] at hX
  obtain ⟨vX, hvX⟩ : ∃ x, kv pl = x := ⟨_, rfl⟩
  rw [hvX] at hX hshv
  have eX := hX
  have lX := eX.len
  have sX : sub LX 0 5 = LX := qdc lX
  have qX : spl [0, 0, 0, 0, 0] 0 LX = LX := qc8 (by simp [lX])
  obtain ⟨K, hK⟩ : ∃ K, val 256 kc = K := ⟨_, rfl⟩
  rw [hK] at hshv
  have hkb := key_bit hkc
  rw [hK] at hkb
  obtain ⟨R, hR⟩ : ∃ R, lad vX K 255 ⟨1, 0, vX, 1⟩ = R := ⟨_, rfl⟩
  rw [hR] at hshv
  have u1 : preU32 [.v (.int .u32 1)] := ⟨1, rfl, by decide, by decide⟩
  have u0 : preU32 [.v (.int .u32 0)] := ⟨0, rfl, by decide, by decide⟩
  have um : preU32 [.v (.int .u32 121665)] := ⟨121665, rfl, by decide, by decide⟩
  have el1 : El [1, 0, 0, 0, 0] 1 := small_el (by decide) (by decide)
  have el0 : El [0, 0, 0, 0, 0] 0 := small_el (by decide) (by decide)
  have ek1 : El [121665, 0, 0, 0, 0] 121665 := small_el (by decide) (by decide)
  simp only [s52, s24, s36, s40, s38, s42, s39, s31, s27]
  simp only [ir51,rs51,gl,F51,hkl,hpl1,sk,spl',k1,k2,hkcc,hkcl,spk,hXX',lX,sX,qX,u1,u0,s52,s24,s36,F52,F24,F36,qdc,qc8,qaj,List.length_cons,List.length_nil,Nat.reduceAdd,Nat.le_refl,Nat.reduceLeDiff,Nat.reduceLT,true_and,and_true,↓qax,↓qay,↓qa0,↓qaz,↓qcu,↓qbj,↓qa1,↓qcm,↓qb3,↓qcj,↓qcb,↓qcf,↓qcg,↓qb4,↓qce,↓qck,↓qb5,↓qch,↓qci,↓qb6,↓qcc,↓qca,↓qb9,↓qb8,↓qb7,↓qa5,↓qbc,↓qa6,↓qbd,↓qa7,↓qbe,↓qa8,↓qbf,↓qa9,↓qbg,↓qba,↓qbh,↓qbb,↓qbi,↓qb2,↓qcl,↓qfe,↓qcp,↓qcq,↓qcr,↓qco,↓qcn,↓qbm,↓qbn,↓qb0,↓qbv,↓qbq,↓qbu,↓qbz,↓qbw,↓qby,↓qbx,↓qbr,↓qbp,↓qb1,↓qbs,↓qbt,↓qbo,↓qe1,↓qe0,↓qe5,↓qe7,↓qe6,↓qez,↓qey,↓qev,↓qew,↓qe4,↓qe3,↓qe2,qc7,↓qes,↓qet,↓qex,↓qc6,↓qc4,↓qc5,↓qe9,↓qfa,↓qfb,↓qe8,qaa,↓qeu,↓qeh,↓qei,↓qfd,↓qfc,↓qek,↓qdm,↓qdu,↓qeb,↓qec,↓qep,↓qeq,↓qdq,↓qdr,↓qdt,↓qds,↓qdz,↓qer,↓qdx,↓qel,↓qdp,↓qef,↓qem,↓qen,↓qeo,↓qd3,↓qd2,↓qd4,↓qd5,↓qd7,↓qd1,↓qd8,↓qea,↓qd9,↓qdn,↓qdo,↓qd0,↓qaw,↓qdy,↓qeg,↓qee,↓qdl,↓qej,↓qed,↓qd6,qav,List.drop_zero,Nat.sub_zero,qc0,qcv,qcw,qdj,qat,qas,qaf,List.map_cons,List.map_nil,List.zip_cons_cons,List.zip_nil_right,List.zip_nil_left,qau,evs,evp,mkB,repB,blen,qae,qad,qac,qab,qc3,qc2,qdi,qdk,qdg,qdh,qcz,qc1,qcx,qcy,↓qde,↓qdd,↓qdf,↓qah,↓qag,↓qai,↓retQ,res,resAll,resOne,kill,apartOk,exp,injV,injB,pur,purs,purR,pursR,List.set_cons_zero,List.set_cons_succ,List.length_cons,List.length_nil,List.cons_append,List.nil_append,List.append_nil,List.append_assoc,List.length_append,List.reduceReplicate,Nat.reduceAdd,Nat.reduceMul,Nat.reduceSub,Nat.reduceEqDiff,Nat.reduceLT,Nat.zero_add,Nat.add_zero,Nat.mul_one,Int.reduceToNat,Int.toNat_natCast,Int.cast_ofNat_Int,Int.reduceLE,Int.reduceLT,Int.reduceEq,reduceCtorEq,↓reduceIte,Bool.true_eq_false,Bool.false_eq_true,Bool.not_true,Bool.not_false,true_and,and_true,and_assoc,qaj,sub1,qda,qc9,qdb,List.length_replicate,Nat.le_refl,false_implies,true_implies,ne_eq,not_true_eq_false,not_false_eq_true,decide_true,decide_false,decide_eq_true_eq,decide_eq_false_iff_not,Bool.not_eq_true',Bool.not_eq_false']
  repeat (refine And.intro (by omega) ?_)
  refine awp_loopA (n := 130) hA [4, 5, 6, 7, 8, 9, 10, 11, 12] (by decide +kernel) (fun m : Ms => [.ptr 6 0, .ptr 7 0, .ptr 8 0, .ptr 9 0, .ptr 10 0, .ptr 11 0, .ptr 12 0, .int .u64 m.w, .int .i64 ((m.n : Int) - 1)])
    (fun m => [.dead, .dead, .dead, .dead, .ints false .u8 k, .ints false .u8 pl, .ints false .u8 [0, 0, 0, 0, 0, 0, 0, 0, 0, 0, 0, 0, 0, 0, 0, 0, 0, 0, 0, 0, 0, 0, 0, 0, 0, 0, 0, 0, 0, 0, 0, 0], .ints false .u8 kc, .ints false .u64 LX, .ints false .u64 m.X2, .ints false .u64 m.Z2, .ints false .u64 m.X3, .ints false .u64 m.Z3]) (fun m => m.n ≤ 255 ∧ m.Ok ∧ lad vX K m.n m.S = R) (fun m => m.n) ⟨255, [1, 0, 0, 0, 0], [0, 0, 0, 0, 0], LX, [1, 0, 0, 0, 0], 0, ⟨1, 0, vX, 1⟩⟩ ?_ ⟨Nat.le_refl _, ?_, hR⟩ ?_
  · refine Hd.same ?_
    simp only [show (255 : Int) - 1 = 254 by decide,↓qax,↓qay,↓qa0,↓qaz,↓qcu,↓qbj,↓qa1,↓qcm,↓qb3,↓qcj,↓qcb,↓qcf,↓qcg,↓qb4,↓qce,↓qck,↓qb5,↓qch,↓qci,↓qb6,↓qcc,↓qca,↓qb9,↓qb8,↓qb7,↓qa5,↓qbc,↓qa6,↓qbd,↓qa7,↓qbe,↓qa8,↓qbf,↓qa9,↓qbg,↓qba,↓qbh,↓qbb,↓qbi,↓qb2,↓qcl,↓qfe,↓qcp,↓qcq,↓qcr,↓qco,↓qcn,↓qbm,↓qbn,↓qb0,↓qbv,↓qbq,↓qbu,↓qbz,↓qbw,↓qby,↓qbx,↓qbr,↓qbp,↓qb1,↓qbs,↓qbt,↓qbo,↓qe1,↓qe0,↓qe5,↓qe7,↓qe6,↓qez,↓qey,↓qev,↓qew,↓qe4,↓qe3,↓qe2,qc7,↓qes,↓qet,↓qex,↓qc6,↓qc4,↓qc5,↓qe9,↓qfa,↓qfb,↓qe8,qaa,↓qeu,↓qeh,↓qei,↓qfd,↓qfc,↓qek,↓qdm,↓qdu,↓qeb,↓qec,↓qep,↓qeq,↓qdq,↓qdr,↓qdt,↓qds,↓qdz,↓qer,↓qdx,↓qel,↓qdp,↓qef,↓qem,↓qen,↓qeo,↓qd3,↓qd2,↓qd4,↓qd5,↓qd7,↓qd1,↓qd8,↓qea,↓qd9,↓qdn,↓qdo,↓qd0,↓qaw,↓qdy,↓qeg,↓qee,↓qdl,↓qej,↓qed,↓qd6,qav,List.drop_zero,Nat.sub_zero,qc0,qcv,qcw,qdj,qat,qas,qaf,List.map_cons,List.map_nil,List.zip_cons_cons,List.zip_nil_right,List.zip_nil_left,qau,evs,evp,mkB,repB,blen,qae,qad,qac,qab,qc3,qc2,qdi,qdk,qdg,qdh,qcz,qc1,qcx,qcy,↓qde,↓qdd,↓qdf,↓qah,↓qag,↓qai,↓retQ,res,resAll,resOne,kill,apartOk,exp,injV,injB,pur,purs,purR,pursR,List.set_cons_zero,List.set_cons_succ,List.length_cons,List.length_nil,List.cons_append,List.nil_append,List.append_nil,List.append_assoc,List.length_append,List.reduceReplicate,Nat.reduceAdd,Nat.reduceMul,Nat.reduceSub,Nat.reduceEqDiff,Nat.reduceLT,Nat.zero_add,Nat.add_zero,Nat.mul_one,Int.reduceToNat,Int.toNat_natCast,Int.cast_ofNat_Int,Int.reduceLE,Int.reduceLT,Int.reduceEq,reduceCtorEq,↓reduceIte,Bool.true_eq_false,Bool.false_eq_true,Bool.not_true,Bool.not_false,true_and,and_true,and_assoc,qaj,sub1,qda,qc9,qdb,List.length_replicate,Nat.le_refl,false_implies,true_implies,ne_eq,not_true_eq_false,not_false_eq_true,decide_true,decide_false,decide_eq_true_eq,decide_eq_false_iff_not,Bool.not_eq_true',Bool.not_eq_false']
  · exact ⟨.inl rfl, fun _ => ⟨el1, eX⟩, fun h => absurd h (by simp), fun _ => ⟨el0, el1⟩, fun h => absurd h (by simp)⟩
  rintro ⟨n, X2, Z2, X3, Z3, w, S⟩ ⟨hn, hok, hr⟩ KK hKK
  obtain ⟨fX2, fZ2, fX3, fZ3⟩ := Ms.fv hok
  obtain ⟨hw, ho1, ho2, ho3, ho4⟩ := hok
  simp only at hn hr hKK fX2 fZ2 fX3 fZ3 hw ho1 ho2 ho3 ho4
  have lX2 := fX2.1
  have lZ2 := fZ2.1
  have lX3 := fX3.1
  have lZ3 := fZ3.1
  have sX2 : sub X2 0 5 = X2 := qdc lX2
  have sZ2 : sub Z2 0 5 = Z2 := qdc lZ2
  have sX3 : sub X3 0 5 = X3 := qdc lX3
  have sZ3 : sub Z3 0 5 = Z3 := qdc lZ3
  simp only [s52, s24, s36, s40, s38, s42, s39, s31, s27]
  by_cases h0 : n = 0
  · subst h0
    have c1 : ¬ (0 : Int) ≤ 0 - 1 := by decide
    have hwb : 0 ≤ w ∧ w < 18446744073709551616 := by omega
    have hSR : S = R := hr
    obtain ⟨eA, eC⟩ := sw_fin hw ho1 ho2
    obtain ⟨eB, eD⟩ := sw_fin hw ho3 ho4
    have pS1 : preSw [.v (.int .u64 w), .v (.ints .u64 X2), .v (.ints .u64 X3)] := ⟨_, _, _, rfl, hwb, fX2, fX3⟩
    have pS2 : preSw [.v (.int .u64 w), .v (.ints .u64 Z2), .v (.ints .u64 Z3)] := ⟨_, _, _, rfl, hwb, fZ2, fZ3⟩
    obtain ⟨LA, hA1⟩ : ∃ L, (swF w X2 X3).1 = L := ⟨_, rfl⟩
    obtain ⟨LB, hB1⟩ : ∃ L, (swF w Z2 Z3).1 = L := ⟨_, rfl⟩
    rw [hA1] at eA
    rw [hB1] at eB
    have lA := eA.len
    have lB := eB.len
    have sA : sub LA 0 5 = LA := qdc lA
    have sB : sub LB 0 5 = LB := qdc lB
    have qA : spl X2 0 LA = LA := qc8 (by omega)
    have qB : spl Z2 0 LB = LB := qc8 (by omega)
    have p1 := eB.p1
    have eI := inv_el eB
    obtain ⟨LI, hI⟩ : ∃ L, invF LB = L := ⟨_, rfl⟩
    rw [hI] at eI
    have p2 := eA.p2 eI
    have eM := mul_el eA eI
    obtain ⟨LM, hM⟩ : ∃ L, mulF LA LI = L := ⟨_, rfl⟩
    rw [hM] at eM
    have p3 := eM.p1
    have b1 : bytesF LM = dig 256 32 (shv k pl) := by rw [eM.bytes, hshv, ← hSR]; rfl
    have l32 : (dig 256 32 (shv k pl)).length = 32 := qaj _ _ _
    have sp3 : spl [0, 0, 0, 0, 0, 0, 0, 0, 0, 0, 0, 0, 0, 0, 0, 0, 0, 0, 0, 0, 0, 0, 0, 0, 0, 0, 0, 0, 0, 0, 0, 0] 0 (dig 256 32 (shv k pl)) = dig 256 32 (shv k pl) := qc8 (by simp [l32])
    simp only [c1,lX2,lZ2,lX3,lZ3,sX2,sZ2,sX3,sZ3,pS1,pS2,hA1,hB1,lA,lB,sA,sB,qA,qB,p1,hI,p2,hM,p3,b1,sp3,s40,s39,s31,s27,F40,F39,F31,F27,qdc,qc8,qaj,List.length_cons,List.length_nil,Nat.reduceAdd,Nat.le_refl,Nat.reduceLeDiff,Nat.reduceLT,true_and,and_true,↓qax,↓qay,↓qa0,↓qaz,↓qcu,↓qbj,↓qa1,↓qcm,↓qb3,↓qcj,↓qcb,↓qcf,↓qcg,↓qb4,↓qce,↓qck,↓qb5,↓qch,↓qci,↓qb6,↓qcc,↓qca,↓qb9,↓qb8,↓qb7,↓qa5,↓qbc,↓qa6,↓qbd,↓qa7,↓qbe,↓qa8,↓qbf,↓qa9,↓qbg,↓qba,↓qbh,↓qbb,↓qbi,↓qb2,↓qcl,↓qfe,↓qcp,↓qcq,↓qcr,↓qco,↓qcn,↓qbm,↓qbn,↓qb0,↓qbv,↓qbq,↓qbu,↓qbz,↓qbw,↓qby,↓qbx,↓qbr,↓qbp,↓qb1,↓qbs,↓qbt,↓qbo,↓qe1,↓qe0,↓qe5,↓qe7,↓qe6,↓qez,↓qey,↓qev,↓qew,↓qe4,↓qe3,↓qe2,qc7,↓qes,↓qet,↓qex,↓qc6,↓qc4,↓qc5,↓qe9,↓qfa,↓qfb,↓qe8,qaa,↓qeu,↓qeh,↓qei,↓qfd,↓qfc,↓qek,↓qdm,↓qdu,↓qeb,↓qec,↓qep,↓qeq,↓qdq,↓qdr,↓qdt,↓qds,↓qdz,↓qer,↓qdx,↓qel,↓qdp,↓qef,↓qem,↓qen,↓qeo,↓qd3,↓qd2,↓qd4,↓qd5,↓qd7,↓qd1,↓qd8,↓qea,↓qd9,↓qdn,↓qdo,↓qd0,↓qaw,↓qdy,↓qeg,↓qee,↓qdl,↓qej,↓qed,↓qd6,qav,List.drop_zero,Nat.sub_zero,qc0,qcv,qcw,qdj,qat,qas,qaf,List.map_cons,List.map_nil,List.zip_cons_cons,List.zip_nil_right,List.zip_nil_left,qau,evs,evp,mkB,repB,blen,qae,qad,qac,qab,qc3,qc2,qdi,qdk,qdg,qdh,qcz,qc1,qcx,qcy,↓qde,↓qdd,↓qdf,↓qah,↓qag,↓qai,↓retQ,res,resAll,resOne,kill,apartOk,exp,injV,injB,pur,purs,purR,pursR,List.set_cons_zero,List.set_cons_succ,List.length_cons,List.length_nil,List.cons_append,List.nil_append,List.append_nil,List.append_assoc,List.length_append,List.reduceReplicate,Nat.reduceAdd,Nat.reduceMul,Nat.reduceSub,Nat.reduceEqDiff,Nat.reduceLT,Nat.zero_add,Nat.add_zero,Nat.mul_one,Int.reduceToNat,Int.toNat_natCast,Int.cast_ofNat_Int,Int.reduceLE,Int.reduceLT,Int.reduceEq,reduceCtorEq,↓reduceIte,Bool.true_eq_false,Bool.false_eq_true,Bool.not_true,Bool.not_false,true_and,and_true,and_assoc,qaj,sub1,qda,qc9,qdb,List.length_replicate,Nat.le_refl,false_implies,true_implies,ne_eq,not_true_eq_false,not_false_eq_true,decide_true,decide_false,decide_eq_true_eq,decide_eq_false_iff_not,Bool.not_eq_true',Bool.not_eq_false']
    repeat (refine And.intro (by omega) ?_)
    simp only [out, outs, out1, pur, and_self]
  · obtain ⟨i, rfl⟩ : ∃ i, n = i + 1 := ⟨n - 1, by omega⟩
    have c0 : ((i + 1 : Nat) : Int) - 1 = (i : Int) := by omega
    have c1 : (0 : Int) ≤ (i : Int) := by omega
    have wd : Go.IntKind.i64.wrap ((i : Int) - 1) = (i : Int) - 1 := by rw [wrap_i64]; omega
    have d8 := w64_div8 (i := i) (by omega)
    have hi32 : i / 8 < 32 := by omega
    have hkb' := hkb i
    have hs : lad vX K (i + 1) S = lad vX K i (rst vX K i S) := rfl
    rw [hs] at hr
    obtain ⟨bt, hbt⟩ : ∃ bt, K / 2 ^ i % 2 = bt := ⟨_, rfl⟩
    have hb01 : bt = 0 ∨ bt = 1 := by omega
    rw [rst, hbt] at hr
    rw [hbt] at hkb'
    have wb : Go.IntKind.u64.wrap bt = bt := by rw [wrap_u64]; omega
    have hx := sw_el hw hb01 ho1 ho2
    have hz := sw_el hw hb01 ho3 ho4
    have hwb := xor_bd01 hw hb01
    obtain ⟨w', hw'⟩ : ∃ w', bXor .u64 w bt = w' := ⟨_, rfl⟩
    rw [hw'] at hx hz hwb
    have pS1 : preSw [.v (.int .u64 w'), .v (.ints .u64 X2), .v (.ints .u64 X3)] := ⟨_, _, _, rfl, hwb, fX2, fX3⟩
    have pS2 : preSw [.v (.int .u64 w'), .v (.ints .u64 Z2), .v (.ints .u64 Z3)] := ⟨_, _, _, rfl, hwb, fZ2, fZ3⟩
    obtain ⟨LA, hA1⟩ : ∃ L, (swF w' X2 X3).1 = L := ⟨_, rfl⟩
    obtain ⟨LC, hC1⟩ : ∃ L, (swF w' X2 X3).2 = L := ⟨_, rfl⟩
    obtain ⟨LB, hB1⟩ : ∃ L, (swF w' Z2 Z3).1 = L := ⟨_, rfl⟩
    obtain ⟨LD, hD1⟩ : ∃ L, (swF w' Z2 Z3).2 = L := ⟨_, rfl⟩
    rw [hA1, hC1] at hx
    rw [hB1, hD1] at hz
    obtain ⟨⟨vA, vB, vC, vD⟩, hS1⟩ : ∃ S1, (if bt = 1 then S.sw else S) = S1 := ⟨_, rfl⟩
    have eABCD : El LA vA ∧ El LB vB ∧ El LC vC ∧ El LD vD := by
      by_cases h1 : bt = 1
      · rw [if_pos h1] at hS1
        have e := congrArg Q4.a hS1
        have e2 := congrArg Q4.b hS1
        have e3 := congrArg Q4.c hS1
        have e4 := congrArg Q4.d hS1
        simp only [Q4.sw] at e e2 e3 e4
        subst e e2 e3 e4
        exact ⟨(hx.1 h1).1, (hz.1 h1).1, (hx.1 h1).2, (hz.1 h1).2⟩
      · rw [if_neg h1] at hS1
        subst hS1
        exact ⟨(hx.2 h1).1, (hz.2 h1).1, (hx.2 h1).2, (hz.2 h1).2⟩
    obtain ⟨eA, eB, eC, eD⟩ := eABCD
    have hrst : (if bt = 1 then (lst vX S.sw).sw else lst vX S) = if bt = 1 then (lst vX ⟨vA, vB, vC, vD⟩).sw else lst vX ⟨vA, vB, vC, vD⟩ := by
      rw [← hS1]; split <;> rfl
    rw [hrst] at hr
    have lA := eA.len
    have lB := eB.len
    have lC := eC.len
    have lD := eD.len
    have sA : sub LA 0 5 = LA := qdc lA
    have sB : sub LB 0 5 = LB := qdc lB
    have sC : sub LC 0 5 = LC := qdc lC
    have sD : sub LD 0 5 = LD := qdc lD
    have qA : spl X2 0 LA = LA := qc8 (by omega)
    have qB : spl Z2 0 LB = LB := qc8 (by omega)
    have qC : spl X3 0 LC = LC := qc8 (by omega)
    have qD : spl Z3 0 LD = LD := qc8 (by omega)
    obtain ⟨Lk1, hk1⟩ : ∃ L, ([121665, 0, 0, 0, 0] : List Int) = L := ⟨_, rfl⟩
    obtain ⟨vk1, hvk1⟩ : ∃ v : Int, 121665 = v := ⟨_, rfl⟩
    rw [hk1, hvk1] at ek1
    obtain ⟨Ls, hs⟩ : ∃ N, addF LA LB = N := ⟨_, rfl⟩
    obtain ⟨vs, gs⟩ : ∃ z, (vA + vB) % Pp = z := ⟨_, rfl⟩
    have es : El Ls vs := by rw [← hs, ← gs]; exact add_el eA eB
    have ps := eA.p2 eB
    have ls := es.len
    have ss : sub Ls 0 5 = Ls := qdc ls
    have qs : spl [0, 0, 0, 0, 0] 0 Ls = Ls := qc8 (by simp [ls])
    obtain ⟨Lt, ht⟩ : ∃ N, subF LA LB = N := ⟨_, rfl⟩
    obtain ⟨vt, gt⟩ : ∃ z, (vA - vB) % Pp = z := ⟨_, rfl⟩
    have et : El Lt vt := by rw [← ht, ← gt]; exact sub_el eA eB
    have pt := eA.p2 eB
    have lt := et.len
    have st : sub Lt 0 5 = Lt := qdc lt
    have qt : spl [0, 0, 0, 0, 0] 0 Lt = Lt := qc8 (by simp [lt])
    obtain ⟨Lss, hss⟩ : ∃ N, mulF Ls Ls = N := ⟨_, rfl⟩
    obtain ⟨vss, gss⟩ : ∃ z, (vs * vs) % Pp = z := ⟨_, rfl⟩
    have ess : El Lss vss := by rw [← hss, ← gss]; exact mul_el es es
    have pss := es.p2 es
    have lss := ess.len
    have sss : sub Lss 0 5 = Lss := qdc lss
    have qss : spl [0, 0, 0, 0, 0] 0 Lss = Lss := qc8 (by simp [lss])
    obtain ⟨Ltt, htt⟩ : ∃ N, mulF Lt Lt = N := ⟨_, rfl⟩
    obtain ⟨vtt, gtt⟩ : ∃ z, (vt * vt) % Pp = z := ⟨_, rfl⟩
    have ett : El Ltt vtt := by rw [← htt, ← gtt]; exact mul_el et et
    have ptt := et.p2 et
    have ltt := ett.len
    have stt : sub Ltt 0 5 = Ltt := qdc ltt
    have qtt : spl [0, 0, 0, 0, 0] 0 Ltt = Ltt := qc8 (by simp [ltt])
    obtain ⟨Le, he⟩ : ∃ N, subF Lss Ltt = N := ⟨_, rfl⟩
    obtain ⟨ve, ge⟩ : ∃ z, (vss - vtt) % Pp = z := ⟨_, rfl⟩
    have ee : El Le ve := by rw [← he, ← ge]; exact sub_el ess ett
    have pe := ess.p2 ett
    have le := ee.len
    have se : sub Le 0 5 = Le := qdc le
    have qe : spl [0, 0, 0, 0, 0] 0 Le = Le := qc8 (by simp [le])
    obtain ⟨Lcd, hcd⟩ : ∃ N, subF LC LD = N := ⟨_, rfl⟩
    obtain ⟨vcd, gcd⟩ : ∃ z, (vC - vD) % Pp = z := ⟨_, rfl⟩
    have ecd : El Lcd vcd := by rw [← hcd, ← gcd]; exact sub_el eC eD
    have pcd := eC.p2 eD
    have lcd := ecd.len
    have scd : sub Lcd 0 5 = Lcd := qdc lcd
    have qcd : spl [0, 0, 0, 0, 0] 0 Lcd = Lcd := qc8 (by simp [lcd])
    obtain ⟨Lu, hu⟩ : ∃ N, mulF Lcd Ls = N := ⟨_, rfl⟩
    obtain ⟨vu, gu⟩ : ∃ z, (vcd * vs) % Pp = z := ⟨_, rfl⟩
    have eu : El Lu vu := by rw [← hu, ← gu]; exact mul_el ecd es
    have pu := ecd.p2 es
    have lu := eu.len
    have su : sub Lu 0 5 = Lu := qdc lu
    have qu : spl [0, 0, 0, 0, 0] 0 Lu = Lu := qc8 (by simp [lu])
    obtain ⟨Lcs, hcs⟩ : ∃ N, addF LC LD = N := ⟨_, rfl⟩
    obtain ⟨vcs, gcs⟩ : ∃ z, (vC + vD) % Pp = z := ⟨_, rfl⟩
    have ecs : El Lcs vcs := by rw [← hcs, ← gcs]; exact add_el eC eD
    have pcs := eC.p2 eD
    have lcs := ecs.len
    have scs : sub Lcs 0 5 = Lcs := qdc lcs
    have qcs : spl [0, 0, 0, 0, 0] 0 Lcs = Lcs := qc8 (by simp [lcs])
    obtain ⟨Lv, hv⟩ : ∃ N, mulF Lcs Lt = N := ⟨_, rfl⟩
    obtain ⟨vv, gv⟩ : ∃ z, (vcs * vt) % Pp = z := ⟨_, rfl⟩
    have ev : El Lv vv := by rw [← hv, ← gv]; exact mul_el ecs et
    have pv := ecs.p2 et
    have lv := ev.len
    have sv : sub Lv 0 5 = Lv := qdc lv
    have qv : spl [0, 0, 0, 0, 0] 0 Lv = Lv := qc8 (by simp [lv])
    obtain ⟨Lp, hp⟩ : ∃ N, addF Lu Lv = N := ⟨_, rfl⟩
    obtain ⟨vp, gp⟩ : ∃ z, (vu + vv) % Pp = z := ⟨_, rfl⟩
    have ep : El Lp vp := by rw [← hp, ← gp]; exact add_el eu ev
    have pp := eu.p2 ev
    have lp := ep.len
    have sp : sub Lp 0 5 = Lp := qdc lp
    have qp : spl [0, 0, 0, 0, 0] 0 Lp = Lp := qc8 (by simp [lp])
    obtain ⟨Lq, hq⟩ : ∃ N, subF Lu Lv = N := ⟨_, rfl⟩
    obtain ⟨vq, gq⟩ : ∃ z, (vu - vv) % Pp = z := ⟨_, rfl⟩
    have eq : El Lq vq := by rw [← hq, ← gq]; exact sub_el eu ev
    have pq := eu.p2 ev
    have lq := eq.len
    have sq : sub Lq 0 5 = Lq := qdc lq
    have qq : spl [0, 0, 0, 0, 0] 0 Lq = Lq := qc8 (by simp [lq])
    obtain ⟨Lx3, hx3⟩ : ∃ N, mulF Lp Lp = N := ⟨_, rfl⟩
    obtain ⟨vx3, gx3⟩ : ∃ z, (vp * vp) % Pp = z := ⟨_, rfl⟩
    have ex3 : El Lx3 vx3 := by rw [← hx3, ← gx3]; exact mul_el ep ep
    have px3 := ep.p2 ep
    have lx3 := ex3.len
    have sx3 : sub Lx3 0 5 = Lx3 := qdc lx3
    have qx3 : spl [0, 0, 0, 0, 0] 0 Lx3 = Lx3 := qc8 (by simp [lx3])
    obtain ⟨Lqq, hqq⟩ : ∃ N, mulF Lq Lq = N := ⟨_, rfl⟩
    obtain ⟨vqq, gqq⟩ : ∃ z, (vq * vq) % Pp = z := ⟨_, rfl⟩
    have eqq : El Lqq vqq := by rw [← hqq, ← gqq]; exact mul_el eq eq
    have pqq := eq.p2 eq
    have lqq := eqq.len
    have sqq : sub Lqq 0 5 = Lqq := qdc lqq
    have qqq : spl [0, 0, 0, 0, 0] 0 Lqq = Lqq := qc8 (by simp [lqq])
    obtain ⟨Lz3, hz3⟩ : ∃ N, mulF LX Lqq = N := ⟨_, rfl⟩
    obtain ⟨vz3, gz3⟩ : ∃ z, (vX * vqq) % Pp = z := ⟨_, rfl⟩
    have ez3 : El Lz3 vz3 := by rw [← hz3, ← gz3]; exact mul_el eX eqq
    have pz3 := eX.p2 eqq
    have lz3 := ez3.len
    have sz3 : sub Lz3 0 5 = Lz3 := qdc lz3
    have qz3 : spl [0, 0, 0, 0, 0] 0 Lz3 = Lz3 := qc8 (by simp [lz3])
    obtain ⟨Lx2, hx2⟩ : ∃ N, mulF Lss Ltt = N := ⟨_, rfl⟩
    obtain ⟨vx2, gx2⟩ : ∃ z, (vss * vtt) % Pp = z := ⟨_, rfl⟩
    have ex2 : El Lx2 vx2 := by rw [← hx2, ← gx2]; exact mul_el ess ett
    have px2 := ess.p2 ett
    have lx2 := ex2.len
    have sx2 : sub Lx2 0 5 = Lx2 := qdc lx2
    have qx2 : spl [0, 0, 0, 0, 0] 0 Lx2 = Lx2 := qc8 (by simp [lx2])
    obtain ⟨Lm, hm⟩ : ∃ N, mulF Lk1 Le = N := ⟨_, rfl⟩
    obtain ⟨vm, gm⟩ : ∃ z, (vk1 * ve) % Pp = z := ⟨_, rfl⟩
    have em : El Lm vm := by rw [← hm, ← gm]; exact mul_el ek1 ee
    have pm := ek1.p2 ee
    have lm := em.len
    have sm : sub Lm 0 5 = Lm := qdc lm
    have qm : spl [0, 0, 0, 0, 0] 0 Lm = Lm := qc8 (by simp [lm])
    obtain ⟨Ln, hn⟩ : ∃ N, addF Lss Lm = N := ⟨_, rfl⟩
    obtain ⟨vn, gn⟩ : ∃ z, (vss + vm) % Pp = z := ⟨_, rfl⟩
    have en : El Ln vn := by rw [← hn, ← gn]; exact add_el ess em
    have pn := ess.p2 em
    have ln := en.len
    have sn : sub Ln 0 5 = Ln := qdc ln
    have qn : spl [0, 0, 0, 0, 0] 0 Ln = Ln := qc8 (by simp [ln])
    obtain ⟨Lz2, hz2⟩ : ∃ N, mulF Le Ln = N := ⟨_, rfl⟩
    obtain ⟨vz2, gz2⟩ : ∃ z, (ve * vn) % Pp = z := ⟨_, rfl⟩
    have ez2 : El Lz2 vz2 := by rw [← hz2, ← gz2]; exact mul_el ee en
    have pz2 := ee.p2 en
    have lz2 := ez2.len
    have sz2 : sub Lz2 0 5 = Lz2 := qdc lz2
    have qz2 : spl [0, 0, 0, 0, 0] 0 Lz2 = Lz2 := qc8 (by simp [lz2])
    have hl : lst vX ⟨vA, vB, vC, vD⟩ = ⟨vx2, vz2, vx3, vz3⟩ := by
      subst hvk1
      subst gz2 gn gm gx2 gz3 gqq gx3 gq gp gv gcs gu gcd ge gtt gss gt gs
      rfl
    rw [hl] at hr
    have r1 : spl LC 0 Lx3 = Lx3 := qc8 (by omega)
    have r2 : spl LD 0 Lz3 = Lz3 := qc8 (by omega)
    have r3 : spl LA 0 Lx2 = Lx2 := qc8 (by omega)
    have r4 : spl LB 0 Lz2 = Lz2 := qc8 (by omega)
    simp only [c0,c1,wd,d8,tmod8,hi32,hkcl,hkb',wb,hw',pS1,pS2,hA1,hB1,hC1,hD1,lX,sX,lX2,lZ2,lX3,lZ3,sX2,sZ2,sX3,sZ3,lA,lB,lC,lD,sA,sB,sC,sD,qA,qB,qC,qD,um,hk1,hs,ps,ls,ss,qs,ht,pt,lt,st,qt,hss,pss,lss,sss,qss,htt,ptt,ltt,stt,qtt,he,pe,le,se,qe,hcd,pcd,lcd,scd,qcd,hu,pu,lu,su,qu,hcs,pcs,lcs,scs,qcs,hv,pv,lv,sv,qv,hp,pp,lp,sp,qp,hq,pq,lq,sq,qq,hx3,px3,lx3,sx3,qx3,hqq,pqq,lqq,sqq,qqq,hz3,pz3,lz3,sz3,qz3,hx2,px2,lx2,sx2,qx2,hm,pm,lm,sm,qm,hn,pn,ln,sn,qn,hz2,pz2,lz2,sz2,qz2,r1,r2,r3,r4,s36,s40,s38,s42,s39,F36,F40,F38,F42,F39,qdc,qc8,qaj,List.length_cons,List.length_nil,Nat.reduceAdd,Nat.le_refl,Nat.reduceLeDiff,Nat.reduceLT,true_and,and_true,↓qax,↓qay,↓qa0,↓qaz,↓qcu,↓qbj,↓qa1,↓qcm,↓qb3,↓qcj,↓qcb,↓qcf,↓qcg,↓qb4,↓qce,↓qck,↓qb5,↓qch,↓qci,↓qb6,↓qcc,↓qca,↓qb9,↓qb8,↓qb7,↓qa5,↓qbc,↓qa6,↓qbd,↓qa7,↓qbe,↓qa8,↓qbf,↓qa9,↓qbg,↓qba,↓qbh,↓qbb,↓qbi,↓qb2,↓qcl,↓qfe,↓qcp,↓qcq,↓qcr,↓qco,↓qcn,↓qbm,↓qbn,↓qb0,↓qbv,↓qbq,↓qbu,↓qbz,↓qbw,↓qby,↓qbx,↓qbr,↓qbp,↓qb1,↓qbs,↓qbt,↓qbo,↓qe1,↓qe0,↓qe5,↓qe7,↓qe6,↓qez,↓qey,↓qev,↓qew,↓qe4,↓qe3,↓qe2,qc7,↓qes,↓qet,↓qex,↓qc6,↓qc4,↓qc5,↓qe9,↓qfa,↓qfb,↓qe8,qaa,↓qeu,↓qeh,↓qei,↓qfd,↓qfc,↓qek,↓qdm,↓qdu,↓qeb,↓qec,↓qep,↓qeq,↓qdq,↓qdr,↓qdt,↓qds,↓qdz,↓qer,↓qdx,↓qel,↓qdp,↓qef,↓qem,↓qen,↓qeo,↓qd3,↓qd2,↓qd4,↓qd5,↓qd7,↓qd1,↓qd8,↓qea,↓qd9,↓qdn,↓qdo,↓qd0,↓qaw,↓qdy,↓qeg,↓qee,↓qdl,↓qej,↓qed,↓qd6,qav,List.drop_zero,Nat.sub_zero,qc0,qcv,qcw,qdj,qat,qas,qaf,List.map_cons,List.map_nil,List.zip_cons_cons,List.zip_nil_right,List.zip_nil_left,qau,evs,evp,mkB,repB,blen,qae,qad,qac,qab,qc3,qc2,qdi,qdk,qdg,qdh,qcz,qc1,qcx,qcy,↓qde,↓qdd,↓qdf,↓qah,↓qag,↓qai,↓retQ,res,resAll,resOne,kill,apartOk,exp,injV,injB,pur,purs,purR,pursR,List.set_cons_zero,List.set_cons_succ,List.length_cons,List.length_nil,List.cons_append,List.nil_append,List.append_nil,List.append_assoc,List.length_append,List.reduceReplicate,Nat.reduceAdd,Nat.reduceMul,Nat.reduceSub,Nat.reduceEqDiff,Nat.reduceLT,Nat.zero_add,Nat.add_zero,Nat.mul_one,Int.reduceToNat,Int.toNat_natCast,Int.cast_ofNat_Int,Int.reduceLE,Int.reduceLT,Int.reduceEq,reduceCtorEq,↓reduceIte,Bool.true_eq_false,Bool.false_eq_true,Bool.not_true,Bool.not_false,true_and,and_true,and_assoc,qaj,sub1,qda,qc9,qdb,List.length_replicate,Nat.le_refl,false_implies,true_implies,ne_eq,not_true_eq_false,not_false_eq_true,decide_true,decide_false,decide_eq_true_eq,decide_eq_false_iff_not,Bool.not_eq_true',Bool.not_eq_false']
    repeat (refine And.intro (by omega) ?_)
    refine ⟨⟨i, Lx2, Lz2, Lx3, Lz3, bt, if bt = 1 then (Q4.mk vx2 vz2 vx3 vz3).sw else Q4.mk vx2 vz2 vx3 vz3⟩, hKK _ ⟨by simp only; omega, ?_, hr⟩ (by simp only; omega), Hd.of [0, 1, 2, 3, 4, 5, 6, 7, 8, 9, 10, 11, 12] (by decide) (by decide) (by simp) ?_⟩
    · refine ⟨hb01, fun h => ?_, fun h => ?_, fun h => ?_, fun h => ?_⟩
      all_goals simp only at h ⊢
      · rw [if_neg (by omega)]; exact ⟨ex2, ex3⟩
      · rw [if_pos h]; exact ⟨ex2, ex3⟩
      · rw [if_neg (by omega)]; exact ⟨ez2, ez3⟩
      · rw [if_pos h]; exact ⟨ez2, ez3⟩
    · simp only [gc,gcVs,gcV,posOf,gcH,gcB,Option.map_some,Option.map_none,List.replicate_zero,List.drop_zero,↓qax,↓qay,↓qa0,↓qaz,↓qcu,↓qbj,↓qa1,↓qcm,↓qb3,↓qcj,↓qcb,↓qcf,↓qcg,↓qb4,↓qce,↓qck,↓qb5,↓qch,↓qci,↓qb6,↓qcc,↓qca,↓qb9,↓qb8,↓qb7,↓qa5,↓qbc,↓qa6,↓qbd,↓qa7,↓qbe,↓qa8,↓qbf,↓qa9,↓qbg,↓qba,↓qbh,↓qbb,↓qbi,↓qb2,↓qcl,↓qfe,↓qcp,↓qcq,↓qcr,↓qco,↓qcn,↓qbm,↓qbn,↓qb0,↓qbv,↓qbq,↓qbu,↓qbz,↓qbw,↓qby,↓qbx,↓qbr,↓qbp,↓qb1,↓qbs,↓qbt,↓qbo,↓qe1,↓qe0,↓qe5,↓qe7,↓qe6,↓qez,↓qey,↓qev,↓qew,↓qe4,↓qe3,↓qe2,qc7,↓qes,↓qet,↓qex,↓qc6,↓qc4,↓qc5,↓qe9,↓qfa,↓qfb,↓qe8,qaa,↓qeu,↓qeh,↓qei,↓qfd,↓qfc,↓qek,↓qdm,↓qdu,↓qeb,↓qec,↓qep,↓qeq,↓qdq,↓qdr,↓qdt,↓qds,↓qdz,↓qer,↓qdx,↓qel,↓qdp,↓qef,↓qem,↓qen,↓qeo,↓qd3,↓qd2,↓qd4,↓qd5,↓qd7,↓qd1,↓qd8,↓qea,↓qd9,↓qdn,↓qdo,↓qd0,↓qaw,↓qdy,↓qeg,↓qee,↓qdl,↓qej,↓qed,↓qd6,qav,List.drop_zero,Nat.sub_zero,qc0,qcv,qcw,qdj,qat,qas,qaf,List.map_cons,List.map_nil,List.zip_cons_cons,List.zip_nil_right,List.zip_nil_left,qau,evs,evp,mkB,repB,blen,qae,qad,qac,qab,qc3,qc2,qdi,qdk,qdg,qdh,qcz,qc1,qcx,qcy,↓qde,↓qdd,↓qdf,↓qah,↓qag,↓qai,↓retQ,res,resAll,resOne,kill,apartOk,exp,injV,injB,pur,purs,purR,pursR,List.set_cons_zero,List.set_cons_succ,List.length_cons,List.length_nil,List.cons_append,List.nil_append,List.append_nil,List.append_assoc,List.length_append,List.reduceReplicate,Nat.reduceAdd,Nat.reduceMul,Nat.reduceSub,Nat.reduceEqDiff,Nat.reduceLT,Nat.zero_add,Nat.add_zero,Nat.mul_one,Int.reduceToNat,Int.toNat_natCast,Int.cast_ofNat_Int,Int.reduceLE,Int.reduceLT,Int.reduceEq,reduceCtorEq,↓reduceIte,Bool.true_eq_false,Bool.false_eq_true,Bool.not_true,Bool.not_false,true_and,and_true,and_assoc,qaj,sub1,qda,qc9,qdb,List.length_replicate,Nat.le_refl,false_implies,true_implies,ne_eq,not_true_eq_false,not_false_eq_true,decide_true,decide_false,decide_eq_true_eq,decide_eq_false_iff_not,Bool.not_eq_true',Bool.not_eq_false']
end Am
set_option linter.unusedSimpArgs false
set_option linter.unusedVariables false
set_option maxRecDepth 20000
namespace Am
open Go.Proofs
/-! ### What two share -/
def lmul (k p : List Int) : List Int := dig 256 32 (shv k p)
theorem lmul_len (k p : List Int) : (lmul k p).length = 32 := qaj _ _ _
theorem lmul_key (k p : List Int) : Key (lmul k p) := key_dig32 _
def F50 : List D → Out
  | [.v (.ints _ k), .v (.ints _ p)] => .many [.v (.ints .u8 (lmul k p)), .v (.bool (!decide (lmul k p = List.replicate 32 0)))]
  | _ => bad
def s50 : Summ := sData [.v, .v] preKK F50
theorem Key.kk {k p : List Int} (h : Key k) (h' : Key p) : preKK [.v (.ints .u8 k), .v (.ints .u8 p)] := ⟨_, _, rfl, h, h'⟩
theorem ok50 {g : List Blk} [Ge gl g] : SumOK Try.prog g 50 s50 ∧ SumAbs s50 := by
  refine fsumA (l := [(51, s51)]) mixed gl_plain rfl Try.func50 comp50 compR50 nt50 (by simp only [List.mem_cons, List.not_mem_nil, or_false, forall_eq]; exact ok51) fun ds ⟨k, p, hd, hk, hp⟩ hA => ?_
  subst hd
  have hkl := hk.1
  have hpl := hp.1
  have sk : sub k 0 32 = k := qdc hkl
  have sp : sub p 0 32 = p := qdc hpl
  have p1 := hk.kk hp
  have hF : dig 256 32 (shv k p) = lmul k p := rfl
  obtain ⟨w, hw⟩ : ∃ w, lmul k p = w := ⟨_, rfl⟩
  have hwl : w.length = 32 := by rw [← hw]; exact lmul_len k p
  have sw : sub w 0 32 = w := qdc hwl
  have spw : spl [0, 0, 0, 0, 0, 0, 0, 0, 0, 0, 0, 0, 0, 0, 0, 0, 0, 0, 0, 0, 0, 0, 0, 0, 0, 0, 0, 0, 0, 0, 0, 0] 0 w = w := qc8 (by simp [hwl])
  simp only [s51]
  simp only [ir50,rs50,gl,F50,hkl,hpl,sk,sp,p1,hF,hw,hwl,sw,spw,s51,F51,qdc,qc8,qaj,List.length_cons,List.length_nil,Nat.reduceAdd,Nat.le_refl,Nat.reduceLeDiff,Nat.reduceLT,true_and,and_true,↓qax,↓qay,↓qa0,↓qaz,↓qcu,↓qbj,↓qa1,↓qcm,↓qb3,↓qcj,↓qcb,↓qcf,↓qcg,↓qb4,↓qce,↓qck,↓qb5,↓qch,↓qci,↓qb6,↓qcc,↓qca,↓qb9,↓qb8,↓qb7,↓qa5,↓qbc,↓qa6,↓qbd,↓qa7,↓qbe,↓qa8,↓qbf,↓qa9,↓qbg,↓qba,↓qbh,↓qbb,↓qbi,↓qb2,↓qcl,↓qfe,↓qcp,↓qcq,↓qcr,↓qco,↓qcn,↓qbm,↓qbn,↓qb0,↓qbv,↓qbq,↓qbu,↓qbz,↓qbw,↓qby,↓qbx,↓qbr,↓qbp,↓qb1,↓qbs,↓qbt,↓qbo,↓qe1,↓qe0,↓qe5,↓qe7,↓qe6,↓qez,↓qey,↓qev,↓qew,↓qe4,↓qe3,↓qe2,qc7,↓qes,↓qet,↓qex,↓qc6,↓qc4,↓qc5,↓qe9,↓qfa,↓qfb,↓qe8,qaa,↓qeu,↓qeh,↓qei,↓qfd,↓qfc,↓qek,↓qdm,↓qdu,↓qeb,↓qec,↓qep,↓qeq,↓qdq,↓qdr,↓qdt,↓qds,↓qdz,↓qer,↓qdx,↓qel,↓qdp,↓qef,↓qem,↓qen,↓qeo,↓qd3,↓qd2,↓qd4,↓qd5,↓qd7,↓qd1,↓qd8,↓qea,↓qd9,↓qdn,↓qdo,↓qd0,↓qaw,↓qdy,↓qeg,↓qee,↓qdl,↓qej,↓qed,↓qd6,qav,List.drop_zero,Nat.sub_zero,qc0,qcv,qcw,qdj,qat,qas,qaf,List.map_cons,List.map_nil,List.zip_cons_cons,List.zip_nil_right,List.zip_nil_left,qau,evs,evp,mkB,repB,blen,qae,qad,qac,qab,qc3,qc2,qdi,qdk,qdg,qdh,qcz,qc1,qcx,qcy,↓qde,↓qdd,↓qdf,↓qah,↓qag,↓qai,↓retQ,res,resAll,resOne,kill,apartOk,exp,injV,injB,pur,purs,purR,pursR,List.set_cons_zero,List.set_cons_succ,List.length_cons,List.length_nil,List.cons_append,List.nil_append,List.append_nil,List.append_assoc,List.length_append,List.reduceReplicate,Nat.reduceAdd,Nat.reduceMul,Nat.reduceSub,Nat.reduceEqDiff,Nat.reduceLT,Nat.zero_add,Nat.add_zero,Nat.mul_one,Int.reduceToNat,Int.toNat_natCast,Int.cast_ofNat_Int,Int.reduceLE,Int.reduceLT,Int.reduceEq,reduceCtorEq,↓reduceIte,Bool.true_eq_false,Bool.false_eq_true,Bool.not_true,Bool.not_false,true_and,and_true,and_assoc,qaj,sub1,qda,qc9,qdb,List.length_replicate,Nat.le_refl,false_implies,true_implies,ne_eq,not_true_eq_false,not_false_eq_true,decide_true,decide_false,decide_eq_true_eq,decide_eq_false_iff_not,Bool.not_eq_true',Bool.not_eq_false']
  repeat (refine And.intro (by omega) ?_)
  simp only [out, outs, out1, pur, and_self]
def F48 : List D → Out
  | _ => .one (.v (.bool true))
def pre48 (ds : List D) : Prop := ds = []
def s48 : Summ := sData [] pre48 F48
theorem aw1 : getI (lmul [9, 0, 0, 0, 0, 0, 0, 0, 0, 0, 0, 0, 0, 0, 0, 0, 0, 0, 0, 0, 0, 0, 0, 0, 0, 0, 0, 0, 0, 0, 0, 0] [9, 0, 0, 0, 0, 0, 0, 0, 0, 0, 0, 0, 0, 0, 0, 0, 0, 0, 0, 0, 0, 0, 0, 0, 0, 0, 0, 0, 0, 0, 0, 0]) 0 = 66 ∧ getI (lmul [9, 0, 0, 0, 0, 0, 0, 0, 0, 0, 0, 0, 0, 0, 0, 0, 0, 0, 0, 0, 0, 0, 0, 0, 0, 0, 0, 0, 0, 0, 0, 0] [9, 0, 0, 0, 0, 0, 0, 0, 0, 0, 0, 0, 0, 0, 0, 0, 0, 0, 0, 0, 0, 0, 0, 0, 0, 0, 0, 0, 0, 0, 0, 0]) 1 = 44 ∧ getI (lmul [9, 0, 0, 0, 0, 0, 0, 0, 0, 0, 0, 0, 0, 0, 0, 0, 0, 0, 0, 0, 0, 0, 0, 0, 0, 0, 0, 0, 0, 0, 0, 0] [9, 0, 0, 0, 0, 0, 0, 0, 0, 0, 0, 0, 0, 0, 0, 0, 0, 0, 0, 0, 0, 0, 0, 0, 0, 0, 0, 0, 0, 0, 0, 0]) 2 = 142 ∧ getI (lmul [9, 0, 0, 0, 0, 0, 0, 0, 0, 0, 0, 0, 0, 0, 0, 0, 0, 0, 0, 0, 0, 0, 0, 0, 0, 0, 0, 0, 0, 0, 0, 0] [9, 0, 0, 0, 0, 0, 0, 0, 0, 0, 0, 0, 0, 0, 0, 0, 0, 0, 0, 0, 0, 0, 0, 0, 0, 0, 0, 0, 0, 0, 0, 0]) 31 = 121 := by decide +kernel
theorem aw2 : lmul [7, 0, 0, 0, 0, 0, 0, 0, 0, 0, 0, 0, 0, 0, 0, 0, 0, 0, 0, 0, 0, 0, 0, 0, 0, 0, 0, 0, 0, 0, 0, 0] [0, 0, 0, 0, 0, 0, 0, 0, 0, 0, 0, 0, 0, 0, 0, 0, 0, 0, 0, 0, 0, 0, 0, 0, 0, 0, 0, 0, 0, 0, 0, 0] = [0, 0, 0, 0, 0, 0, 0, 0, 0, 0, 0, 0, 0, 0, 0, 0, 0, 0, 0, 0, 0, 0, 0, 0, 0, 0, 0, 0, 0, 0, 0, 0] := by decide +kernel
theorem key1 {n : Int} (h : 0 ≤ n ∧ n < 256) : Key [n, 0, 0, 0, 0, 0, 0, 0, 0, 0, 0, 0, 0, 0, 0, 0, 0, 0, 0, 0, 0, 0, 0, 0, 0, 0, 0, 0, 0, 0, 0, 0] := ⟨rfl, fun y hy => by
  simp only [List.mem_cons, List.not_mem_nil, or_false] at hy
  rcases hy with rfl | hy
  · exact h
  · have : y = 0 := by simpa using hy
    rw [this]; decide⟩
theorem ok48 {g : List Blk} [Ge gl g] : SumOK Try.prog g 48 s48 ∧ SumAbs s48 := by
  refine fsumA (l := [(51, s51), (50, s50)]) mixed gl_plain rfl Try.func48 comp48 compR48 nt48 (by simp only [List.mem_cons, List.not_mem_nil, or_false, forall_eq_or_imp, forall_eq]; exact ⟨ok51, ok50⟩) fun ds hd hA => ?_
  rw [hd]
  have k9 : Key [9, 0, 0, 0, 0, 0, 0, 0, 0, 0, 0, 0, 0, 0, 0, 0, 0, 0, 0, 0, 0, 0, 0, 0, 0, 0, 0, 0, 0, 0, 0, 0] := key1 (by decide)
  have k7 : Key [7, 0, 0, 0, 0, 0, 0, 0, 0, 0, 0, 0, 0, 0, 0, 0, 0, 0, 0, 0, 0, 0, 0, 0, 0, 0, 0, 0, 0, 0, 0, 0] := key1 (by decide)
  have k0 : Key [0, 0, 0, 0, 0, 0, 0, 0, 0, 0, 0, 0, 0, 0, 0, 0, 0, 0, 0, 0, 0, 0, 0, 0, 0, 0, 0, 0, 0, 0, 0, 0] := key1 (by decide)
  have p1 := k9.kk k9
  have p2 := k7.kk k0
  have hF : dig 256 32 (shv [9, 0, 0, 0, 0, 0, 0, 0, 0, 0, 0, 0, 0, 0, 0, 0, 0, 0, 0, 0, 0, 0, 0, 0, 0, 0, 0, 0, 0, 0, 0, 0] [9, 0, 0, 0, 0, 0, 0, 0, 0, 0, 0, 0, 0, 0, 0, 0, 0, 0, 0, 0, 0, 0, 0, 0, 0, 0, 0, 0, 0, 0, 0, 0]) = lmul [9, 0, 0, 0, 0, 0, 0, 0, 0, 0, 0, 0, 0, 0, 0, 0, 0, 0, 0, 0, 0, 0, 0, 0, 0, 0, 0, 0, 0, 0, 0, 0] [9, 0, 0, 0, 0, 0, 0, 0, 0, 0, 0, 0, 0, 0, 0, 0, 0, 0, 0, 0, 0, 0, 0, 0, 0, 0, 0, 0, 0, 0, 0, 0] := rfl
  obtain ⟨a1, a2, a3, a4⟩ := aw1
  obtain ⟨w, hw⟩ : ∃ w, lmul [9, 0, 0, 0, 0, 0, 0, 0, 0, 0, 0, 0, 0, 0, 0, 0, 0, 0, 0, 0, 0, 0, 0, 0, 0, 0, 0, 0, 0, 0, 0, 0] [9, 0, 0, 0, 0, 0, 0, 0, 0, 0, 0, 0, 0, 0, 0, 0, 0, 0, 0, 0, 0, 0, 0, 0, 0, 0, 0, 0, 0, 0, 0, 0] = w := ⟨_, rfl⟩
  have hwl : w.length = 32 := by rw [← hw]; exact lmul_len _ _
  have spw : spl [0, 0, 0, 0, 0, 0, 0, 0, 0, 0, 0, 0, 0, 0, 0, 0, 0, 0, 0, 0, 0, 0, 0, 0, 0, 0, 0, 0, 0, 0, 0, 0] 0 w = w := qc8 (by simp [hwl])
  have sz : spl [0, 0, 0, 0, 0, 0, 0, 0, 0, 0, 0, 0, 0, 0, 0, 0, 0, 0, 0, 0, 0, 0, 0, 0, 0, 0, 0, 0, 0, 0, 0, 0] 0 [0, 0, 0, 0, 0, 0, 0, 0, 0, 0, 0, 0, 0, 0, 0, 0, 0, 0, 0, 0, 0, 0, 0, 0, 0, 0, 0, 0, 0, 0, 0, 0] = [0, 0, 0, 0, 0, 0, 0, 0, 0, 0, 0, 0, 0, 0, 0, 0, 0, 0, 0, 0, 0, 0, 0, 0, 0, 0, 0, 0, 0, 0, 0, 0] := rfl
  have s0 : sub [0, 0, 0, 0, 0, 0, 0, 0, 0, 0, 0, 0, 0, 0, 0, 0, 0, 0, 0, 0, 0, 0, 0, 0, 0, 0, 0, 0, 0, 0, 0, 0] 0 32 = [0, 0, 0, 0, 0, 0, 0, 0, 0, 0, 0, 0, 0, 0, 0, 0, 0, 0, 0, 0, 0, 0, 0, 0, 0, 0, 0, 0, 0, 0, 0, 0] := rfl
  have r32 : List.replicate 32 (0 : Int) = [0, 0, 0, 0, 0, 0, 0, 0, 0, 0, 0, 0, 0, 0, 0, 0, 0, 0, 0, 0, 0, 0, 0, 0, 0, 0, 0, 0, 0, 0, 0, 0] := rfl
  have d0 : decide (lmul [7, 0, 0, 0, 0, 0, 0, 0, 0, 0, 0, 0, 0, 0, 0, 0, 0, 0, 0, 0, 0, 0, 0, 0, 0, 0, 0, 0, 0, 0, 0, 0] [0, 0, 0, 0, 0, 0, 0, 0, 0, 0, 0, 0, 0, 0, 0, 0, 0, 0, 0, 0, 0, 0, 0, 0, 0, 0, 0, 0, 0, 0, 0, 0] = List.replicate 32 0) = true := by rw [aw2]; rfl
  rw [hw] at a1 a2 a3 a4 hF
  simp only [s51, s50]
  simp only [ir48,rs48,gl,F48,p1,p2,hF,hwl,spw,a1,a2,a3,a4,d0,aw2,sz,s0,eq_self,s51,s50,F51,F50,qdc,qc8,qaj,List.length_cons,List.length_nil,Nat.reduceAdd,Nat.le_refl,Nat.reduceLeDiff,Nat.reduceLT,true_and,and_true,↓qax,↓qay,↓qa0,↓qaz,↓qcu,↓qbj,↓qa1,↓qcm,↓qb3,↓qcj,↓qcb,↓qcf,↓qcg,↓qb4,↓qce,↓qck,↓qb5,↓qch,↓qci,↓qb6,↓qcc,↓qca,↓qb9,↓qb8,↓qb7,↓qa5,↓qbc,↓qa6,↓qbd,↓qa7,↓qbe,↓qa8,↓qbf,↓qa9,↓qbg,↓qba,↓qbh,↓qbb,↓qbi,↓qb2,↓qcl,↓qfe,↓qcp,↓qcq,↓qcr,↓qco,↓qcn,↓qbm,↓qbn,↓qb0,↓qbv,↓qbq,↓qbu,↓qbz,↓qbw,↓qby,↓qbx,↓qbr,↓qbp,↓qb1,↓qbs,↓qbt,↓qbo,↓qe1,↓qe0,↓qe5,↓qe7,↓qe6,↓qez,↓qey,↓qev,↓qew,↓qe4,↓qe3,↓qe2,qc7,↓qes,↓qet,↓qex,↓qc6,↓qc4,↓qc5,↓qe9,↓qfa,↓qfb,↓qe8,qaa,↓qeu,↓qeh,↓qei,↓qfd,↓qfc,↓qek,↓qdm,↓qdu,↓qeb,↓qec,↓qep,↓qeq,↓qdq,↓qdr,↓qdt,↓qds,↓qdz,↓qer,↓qdx,↓qel,↓qdp,↓qef,↓qem,↓qen,↓qeo,↓qd3,↓qd2,↓qd4,↓qd5,↓qd7,↓qd1,↓qd8,↓qea,↓qd9,↓qdn,↓qdo,↓qd0,↓qaw,↓qdy,↓qeg,↓qee,↓qdl,↓qej,↓qed,↓qd6,qav,List.drop_zero,Nat.sub_zero,qc0,qcv,qcw,qdj,qat,qas,qaf,List.map_cons,List.map_nil,List.zip_cons_cons,List.zip_nil_right,List.zip_nil_left,qau,evs,evp,mkB,repB,blen,qae,qad,qac,qab,qc3,qc2,qdi,qdk,qdg,qdh,qcz,qc1,qcx,qcy,↓qde,↓qdd,↓qdf,↓qah,↓qag,↓qai,↓retQ,res,resAll,resOne,kill,apartOk,exp,injV,injB,pur,purs,purR,pursR,List.set_cons_zero,List.set_cons_succ,List.length_cons,List.length_nil,List.cons_append,List.nil_append,List.append_nil,List.append_assoc,List.length_append,List.reduceReplicate,Nat.reduceAdd,Nat.reduceMul,Nat.reduceSub,Nat.reduceEqDiff,Nat.reduceLT,Nat.zero_add,Nat.add_zero,Nat.mul_one,Int.reduceToNat,Int.toNat_natCast,Int.cast_ofNat_Int,Int.reduceLE,Int.reduceLT,Int.reduceEq,reduceCtorEq,↓reduceIte,Bool.true_eq_false,Bool.false_eq_true,Bool.not_true,Bool.not_false,true_and,and_true,and_assoc,qaj,sub1,qda,qc9,qdb,List.length_replicate,Nat.le_refl,false_implies,true_implies,ne_eq,not_true_eq_false,not_false_eq_true,decide_true,decide_false,decide_eq_true_eq,decide_eq_false_iff_not,Bool.not_eq_true',Bool.not_eq_false']
  repeat (refine And.intro (by omega) ?_)
  simp only [out, outs, out1, pur, and_self]
end Am
