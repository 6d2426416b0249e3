/-
Working texts: contracts of functions, and the numbers behind them.
-/
import Derived.Test.YtbmdhkfdigeebaaGcD
import Derived.Test.YtbmdhkfdigeebaaAeS
import Derived.Test.YtbmdhkfdigeebaaIrE
set_option linter.unusedSimpArgs false
set_option linter.unusedVariables false
set_option linter.unusedSectionVars false
set_option linter.unusedSimpArgs false
set_option linter.unusedVariables false
set_option maxRecDepth 20000
namespace Am
open Go.Proofs
/-! ### Sealing and opening, as plain laws -/
theorem xx_self {x f : Int} (hx : Bt x) (hf : Bt f) : bXor .u8 (bXor .u8 x f) f = x := by
  obtain ⟨n, rfl, hn⟩ := hx.nat
  obtain ⟨m, rfl, hm⟩ := hf.nat
  rw [xn hn hm, xn (Nat.xor_lt_two_pow (n := 8) hn hm) hm, Nat.xor_assoc, Nat.xor_self, Nat.xor_zero]
theorem xx_four {a b f : Int} (ha : Bt a) (hb : Bt b) (hf : Bt f) : bXor .u8 (bXor .u8 a f) (bXor .u8 b f) = bXor .u8 a b := by
  obtain ⟨n, rfl, hn⟩ := ha.nat
  obtain ⟨m, rfl, hm⟩ := hb.nat
  obtain ⟨k, rfl, hk⟩ := hf.nat
  rw [xn hn hk, xn hm hk, xn (Nat.xor_lt_two_pow (n := 8) hn hk) (Nat.xor_lt_two_pow (n := 8) hm hk), xn hn hm]
  congr 1
  apply Nat.eq_of_testBit_eq
  intro i
  simp only [Nat.testBit_xor]
  cases n.testBit i <;> cases m.testBit i <;> cases k.testBit i <;> rfl
theorem orn {a b : Nat} (ha : a < 256) (hb : b < 256) : bOr .u8 (a : Int) (b : Int) = ((a ||| b : Nat) : Int) := by
  have hx : a ||| b < 256 := Nat.or_lt_two_pow (n := 8) ha hb
  unfold bOr
  show Go.IntKind.u8.wrap (((BitVec.ofInt 8 (a : Int) ||| BitVec.ofInt 8 (b : Int)).toNat : Nat) : Int) = _
  rw [BitVec.ofInt_natCast, BitVec.ofInt_natCast, BitVec.toNat_or, BitVec.toNat_ofNat, BitVec.toNat_ofNat, Nat.mod_eq_of_lt (by simpa using ha), Nat.mod_eq_of_lt (by simpa using hb), wrap_u8]
  omega
theorem or_zero' {a b : Nat} : a ||| b = 0 ↔ a = 0 ∧ b = 0 := by
  constructor
  · intro h
    have h1 : a ≤ a ||| b := Nat.left_le_or
    have h2 : b ≤ a ||| b := Nat.right_le_or
    omega
  · rintro ⟨rfl, rfl⟩; rfl
theorem or_bt {a b : Int} (ha : Bt a) (hb : Bt b) : Bt (bOr .u8 a b) ∧ (bOr .u8 a b = 0 ↔ a = 0 ∧ b = 0) := by
  obtain ⟨n, rfl, hn⟩ := ha.nat
  obtain ⟨m, rfl, hm⟩ := hb.nat
  have hx : n ||| m < 256 := Nat.or_lt_two_pow (n := 8) hn hm
  rw [orn hn hm]
  refine ⟨⟨by omega, by omega⟩, ?_⟩
  have := or_zero' (a := n) (b := m)
  omega
theorem xor_zero' {a b : Int} (ha : Bt a) (hb : Bt b) : bXor .u8 a b = 0 ↔ a = b := by
  obtain ⟨n, rfl, hn⟩ := ha.nat
  obtain ⟨m, rfl, hm⟩ := hb.nat
  rw [xn hn hm]
  constructor
  · intro h
    have h0 : n ^^^ m = 0 := by omega
    have := congrArg (· ^^^ m) h0
    simp only [Nat.xor_assoc, Nat.xor_self, Nat.xor_zero, Nat.zero_xor] at this
    rw [this]
  · intro h
    have : n = m := by omega
    rw [this, Nat.xor_self]; rfl
theorem df_iff {t u : List Int} (ht : B16 t) (hu : B16 u) : dfF t u = 0 ↔ t = u := by
  have bt : ∀ j, Bt (getI t j) := fun j => ht.2.all (by decide) j
  have bu : ∀ j, Bt (getI u j) := fun j => hu.2.all (by decide) j
  have key : ∀ n, Bt (itr (dfS t u) 0 n) ∧ (itr (dfS t u) 0 n = 0 ↔ ∀ j, j < n → getI t j = getI u j) := by
    intro n
    induction n with
    | zero => exact ⟨⟨by simp [itr], by simp [itr]⟩, ⟨fun _ j hj => by omega, fun _ => rfl⟩⟩
    | succ n ih =>
      rw [itr_s]
      have hx : Bt (bXor .u8 (getI t n) (getI u n)) := x8_bd _ _
      obtain ⟨h1, h2⟩ := or_bt ih.1 hx
      refine ⟨h1, ?_⟩
      show bOr .u8 (itr (dfS t u) 0 n) (bXor .u8 (getI t n) (getI u n)) = 0 ↔ _
      rw [h2, ih.2, xor_zero' (bt n) (bu n)]
      constructor
      · rintro ⟨h3, h4⟩ j hj
        rcases (by omega : j < n ∨ j = n) with h | rfl
        · exact h3 j h
        · exact h4
      · intro h
        exact ⟨fun j hj => h j (by omega), h n (by omega)⟩
  rw [dfF, (key 16).2]
  constructor
  · intro h
    exact getI_ext (ht.1.trans hu.1.symm) fun j hj => h j (by rw [ht.1] at hj; exact hj)
  · rintro rfl j _; rfl
theorem ks_bt {L n : List Int} (hL : L432 L) (hn : B12 n) (j : Nat) : Bt (ksAt L n j) := (strB_ok hL hn _).2.all (by decide) _
theorem xorAt_twice {f : Nat → Int} (hf : ∀ j, Bt (f j)) : ∀ {b : List Int} {o : Nat}, Dig 256 b → xorAt f (xorAt f b o) o = b
  | [], _, _ => rfl
  | x :: r, o, h => by
    simp only [xorAt]
    rw [xx_self (h x (by simp)) (hf o), xorAt_twice hf fun y hy => h y (by simp [hy])]
theorem xorAt_append {f : Nat → Int} : ∀ {a b : List Int} {o : Nat}, xorAt f (a ++ b) o = xorAt f a o ++ xorAt f b (o + a.length)
  | [], _, _ => by simp [xorAt]
  | x :: r, b, o => by
    simp only [List.cons_append, xorAt]
    rw [xorAt_append (a := r), List.length_cons, show o + 1 + r.length = o + (r.length + 1) by omega]
theorem str_twice {L n b : List Int} (hL : L432 L) (hn : B12 n) (hb : Dig 256 b) : strF L n (strF L n b) = b := xorAt_twice (ks_bt hL hn) hb
theorem seal_len (k n a b : List Int) : (sealF k n a b).length = b.length + 16 := by
  simp [sealF, str_len, (tag_ok _ _ _ _).1]
theorem seal_dig (k n a b : List Int) : Dig 256 (sealF k n a b) := (str_dig _ _ _).append (tag_ok _ _ _ _).2
theorem sub_drop {b : List Int} (h : 16 ≤ b.length) : b = bodyF b ++ b.drop (b.length - 16) := by
  simp [bodyF, sub]
/-- What is opened is just what was sealed. -/
theorem opn_iff {k n a b : List Int} (hb : Dig 256 b) : opnB k n a b = true ↔ 16 ≤ b.length ∧ tagF (newF k) n a (bodyF b) = b.drop (b.length - 16) := by
  unfold opnB
  split
  · rename_i h
    constructor
    · intro h; cases h
    · intro h; omega
  · rename_i h
    have hd : B16 (b.drop (b.length - 16)) := ⟨by simp; omega, fun x hx => hb x (List.mem_of_mem_drop hx)⟩
    rw [rightB, decide_eq_true_eq, df_iff (tag_ok _ _ _ _) hd]
    constructor
    · intro h2; exact ⟨by omega, h2⟩
    · intro h2; exact h2.2
theorem opn_seal (k n a b : List Int) (hk : B16 k) (hn : B12 n) (hb : Dig 256 b) : opnB k n a (sealF k n a b) = true ∧ opnS k n a (sealF k n a b) = b := by
  have hl := seal_len k n a b
  have hbd : bodyF (sealF k n a b) = strF (newF k) n b := by
    rw [bodyF, hl, sealF]
    simp [sub, str_len]
  have h : opnB k n a (sealF k n a b) = true := by
    rw [opn_iff (seal_dig _ _ _ _)]
    refine ⟨by omega, ?_⟩
    rw [hbd, hl, sealF]
    simp [str_len]
  refine ⟨h, ?_⟩
  rw [opnS, h, if_pos rfl, hbd, str_twice (new_ok hk) hn hb]
theorem seal_opn {k n a b : List Int} (hk : B16 k) (hn : B12 n) (hb : Dig 256 b) (h : opnB k n a b = true) : sealF k n a (opnS k n a b) = b := by
  obtain ⟨h1, h2⟩ := (opn_iff hb).1 h
  have hbd : Dig 256 (bodyF b) := sub_dig' hb
  rw [opnS, h, if_pos rfl, sealF, str_twice (new_ok hk) hn hbd, h2, ← sub_drop h1]
theorem opn_len {k n a b : List Int} (h : opnB k n a b = true) (hb : Dig 256 b) : (opnS k n a b).length = b.length - 16 := by
  rw [opnS, h, if_pos rfl, str_len]; simp [bodyF, sub]
theorem opn_dig {k n a b : List Int} : Dig 256 (opnS k n a b) := by
  unfold opnS; split
  · exact str_dig _ _ _
  · exact fun x hx => by simp at hx
def z12 : List Int := List.replicate 12 0
theorem z12_ok : B12 z12 := ⟨rfl, fun x hx => by rw [(List.mem_replicate.1 hx).2]; decide⟩
def t09 : List Int := [88, 226, 252, 206, 250, 126, 48, 97, 54, 127, 29, 87, 164, 231, 69, 90]
theorem aw09 : jn (hashF (encR SB z16 z16) [] []) (encR SB z16 (ctrF z12 1)) 16 = t09 := by decide +kernel
theorem seal09 : sealF z16 z12 [] [] = t09 := by
  rw [sealF, show strF (newF z16) z12 [] = [] from rfl, List.nil_append, tagF, aes_eq z16_ok z16_ok, aes_eq z16_ok (ctr_ok z12_ok), box_SB, aw09]
/-! ### Awake -/
def preE9 (ds : List D) : Prop := ds = []
def F19 : List D → Out
  | _ => .one (.v (.bool true))
def s19 : Summ := sData [] preE9 F19
set_option maxHeartbeats 4000000 in
theorem ok19 {g : List Blk} [Ge gl g] : SumOK Try.prog g 19 s19 ∧ SumAbs s19 := by
  refine fsumA (l := [(20, s20)]) mixed gl_plain rfl Try.func19 comp19 compR19 nt19 (by simp only [List.mem_cons, List.not_mem_nil, or_false, forall_eq]; exact ok20) fun ds hd hA => ?_
  rw [hd]
  have hn : Dig 256 ([] : List Int) := fun x hx => by simp at hx
  have q : preSl [.v (.ints .u8 z16), .v (.ints .u8 z12), .s .u8 [], .s .u8 []] := ⟨_, _, _, _, rfl, z16_ok, z12_ok, hn, by decide, hn, by decide⟩
  have f : F20 [.v (.ints .u8 z16), .v (.ints .u8 z12), .s .u8 [], .s .u8 []] = .one (.s .u8 t09) := by
    show Out.one (.s .u8 (sealF z16 z12 [] [])) = _
    rw [seal09]
  have tl : t09.length = 16 := rfl
  have g0 : getI t09 0 = 88 := rfl
  have g1 : getI t09 1 = 226 := rfl
  have g2 : getI t09 2 = 252 := rfl
  have g3 : getI t09 15 = 90 := rfl
  simp only [z16, z12, List.reduceReplicate] at q f
  simp only [s20]
  simp only [ir19,rs19,gl,F19,q,f,tl,g0,g1,g2,g3,qdk,qdg,qaj,List.length_cons,List.length_nil,Nat.reduceAdd,Nat.le_refl,Nat.reduceLeDiff,Nat.reduceLT,true_and,and_true,↓qax,↓qay,↓qa0,↓qaz,↓qcy,↓qbj,↓qa1,↓qcr,↓qb3,↓qco,↓qcb,↓qck,↓qcl,↓qb4,↓qcj,↓qcp,↓qb5,↓qcm,↓qcn,↓qb6,↓qcc,↓qca,↓qb9,↓qb8,↓qb7,↓qa5,↓qbc,↓qa6,↓qbd,↓qa7,↓qbe,↓qa8,↓qbf,↓qa9,↓qbg,↓qba,↓qbh,↓qbb,↓qbi,↓qb2,↓qcq,↓qfq,↓qcu,↓qcv,↓qcw,↓qct,↓qcs,↓qbm,↓qbn,↓qb0,↓qbv,↓qbq,↓qbu,↓qbz,↓qbw,↓qby,↓qbx,↓qbr,↓qbp,↓qb1,↓qbs,↓qbt,↓qbo,↓qfd,↓qfc,↓qfh,↓qfj,↓qfi,↓qfb,↓qfa,↓qe7,↓qe8,↓qfg,↓qff,↓qfe,qdf,↓qe4,↓qe5,↓qe9,↓qdc,↓qda,↓qdb,↓qfl,↓qfm,↓qfn,↓qfk,qaa,↓qe6,↓qer,↓qes,↓qfp,↓qfo,↓qev,↓qdu,↓qd2,↓qej,↓qek,↓qe0,↓qe2,↓qdy,↓qdz,↓qd1,↓qd0,↓qd7,↓qe3,↓qd5,↓qew,↓qdx,↓qep,↓qex,↓qey,↓qez,↓qeb,↓qea,↓qec,↓qed,↓qef,↓qd9,↓qeg,↓qei,↓qeh,↓qdv,↓qdw,↓qd8,↓qaw,↓qd6,↓qeq,↓qem,↓qdt,↓qet,↓qen,↓qeo,↓qeu,↓qcd,↓qce,↓qcf,↓qcg,↓qch,↓qci,qdd,qde,qc1,qc2,↓qel,↓qee,qav,List.drop_zero,Nat.sub_zero,qc6,qcz,qc0,qdr,qat,qas,qaf,List.map_cons,List.map_nil,List.zip_cons_cons,List.zip_nil_right,List.zip_nil_left,qau,evs,evp,mkB,repB,blen,qae,qad,qac,qab,qc9,qc8,qdq,qds,qdo,qdp,qc5,qc7,qc3,qc4,↓qdm,↓qdl,↓qdn,↓qah,↓qag,↓qai,↓retQ,res,resAll,resOne,kill,apartOk,exp,injV,injB,pur,purs,purR,pursR,List.set_cons_zero,List.set_cons_succ,List.length_cons,List.length_nil,List.cons_append,List.nil_append,List.append_nil,List.append_assoc,List.length_append,List.reduceReplicate,Nat.reduceAdd,Nat.reduceMul,Nat.reduceSub,Nat.reduceEqDiff,Nat.reduceLT,Nat.zero_add,Nat.add_zero,Nat.mul_one,Int.reduceToNat,Int.toNat_natCast,Int.cast_ofNat_Int,Int.reduceLE,Int.reduceLT,Int.reduceEq,reduceCtorEq,↓reduceIte,Bool.true_eq_false,Bool.false_eq_true,Bool.not_true,Bool.not_false,true_and,and_true,and_assoc,qaj,sub1,qdi,qdh,qdj,List.length_replicate,Nat.le_refl,false_implies,true_implies,ne_eq,not_true_eq_false,not_false_eq_true,decide_true,decide_false,decide_eq_true_eq,decide_eq_false_iff_not,Bool.not_eq_true',Bool.not_eq_false']
  repeat (refine And.intro (by omega) ?_)
  simp only [out, outs, out1, pur, and_self]
end Am
set_option linter.unusedSimpArgs false
set_option linter.unusedVariables false
set_option maxRecDepth 20000
namespace Am
open Go.Proofs
def FTrue09 : List D → Out := fun _ => .one (.v (.bool true))
def preKN (ds : List D) : Prop := ∃ k n a b : List Int, ds = [.v (.ints .u8 k), .v (.ints .u8 n), .s .u8 a, .s .u8 b] ∧ B16 k ∧ B12 n ∧ Dig 256 a ∧ Dig 256 b
theorem getI_app {a b : List Int} {j : Nat} (h : j < a.length) : getI (a ++ b) j = getI a j := by
  simp [getI, List.getD_eq_getElem?_getD, List.getElem?_append_left h]
end Am
set_option linter.unusedSimpArgs false
set_option linter.unusedVariables false
set_option maxRecDepth 20000
namespace Am
open Go.Proofs
/-! ### The product of two blocks, bit by bit -/
def nb (x : Int) (i : Nat) : Bool := x.toNat.testBit i
def Wd (x : Int) : Prop := 0 ≤ x ∧ x < 18446744073709551616
theorem Wd.nat {x : Int} (h : Wd x) : ∃ n : Nat, x = n ∧ n < 2 ^ 64 := by
  obtain ⟨n, rfl⟩ := Int.eq_ofNat_of_zero_le h.1
  exact ⟨n, rfl, by have := h.2; omega⟩
theorem nb_nat (n i : Nat) : nb (n : Int) i = n.testBit i := by simp [nb]
theorem nb_hi {x : Int} (h : Wd x) {i : Nat} (hi : 64 ≤ i) : nb x i = false := by
  obtain ⟨n, rfl, hn⟩ := h.nat
  rw [nb_nat]
  exact Nat.testBit_lt_two_pow (Nat.lt_of_lt_of_le hn (Nat.pow_le_pow_right (by decide) hi))
theorem nb_hi8 {x : Int} (h : Bt x) {i : Nat} (hi : 8 ≤ i) : nb x i = false := by
  obtain ⟨n, rfl, hn⟩ := h.nat
  rw [nb_nat]
  exact Nat.testBit_lt_two_pow (Nat.lt_of_lt_of_le (show n < 2 ^ 8 from hn) (Nat.pow_le_pow_right (by decide) hi))
theorem wd_ext {x y : Int} (hx : Wd x) (hy : Wd y) (h : ∀ i, i < 64 → nb x i = nb y i) : x = y := by
  have : ∀ i, nb x i = nb y i := fun i => by
    by_cases hi : i < 64
    · exact h i hi
    · rw [nb_hi hx (by omega), nb_hi hy (by omega)]
  obtain ⟨n, rfl, hn⟩ := hx.nat
  obtain ⟨m, rfl, hm⟩ := hy.nat
  congr 1
  refine Nat.eq_of_testBit_eq fun i => ?_
  have := this i
  rwa [nb_nat, nb_nat] at this
theorem x64 {a b : Nat} (ha : a < 2 ^ 64) (hb : b < 2 ^ 64) : bXor .u64 (a : Int) (b : Int) = ((a ^^^ b : Nat) : Int) := by
  have hx : a ^^^ b < 2 ^ 64 := Nat.xor_lt_two_pow ha hb
  unfold bXor
  show Go.IntKind.u64.wrap (((BitVec.ofInt 64 (a : Int) ^^^ BitVec.ofInt 64 (b : Int)).toNat : Nat) : Int) = _
  rw [BitVec.ofInt_natCast, BitVec.ofInt_natCast, BitVec.toNat_xor, BitVec.toNat_ofNat, BitVec.toNat_ofNat, Nat.mod_eq_of_lt ha, Nat.mod_eq_of_lt hb, wrap_u64]
  omega
theorem o64 {a b : Nat} (ha : a < 2 ^ 64) (hb : b < 2 ^ 64) : bOr .u64 (a : Int) (b : Int) = ((a ||| b : Nat) : Int) := by
  have hx : a ||| b < 2 ^ 64 := Nat.or_lt_two_pow ha hb
  unfold bOr
  show Go.IntKind.u64.wrap (((BitVec.ofInt 64 (a : Int) ||| BitVec.ofInt 64 (b : Int)).toNat : Nat) : Int) = _
  rw [BitVec.ofInt_natCast, BitVec.ofInt_natCast, BitVec.toNat_or, BitVec.toNat_ofNat, BitVec.toNat_ofNat, Nat.mod_eq_of_lt ha, Nat.mod_eq_of_lt hb, wrap_u64]
  omega
theorem a64 {a b : Nat} (ha : a < 2 ^ 64) (hb : b < 2 ^ 64) : bAnd .u64 (a : Int) (b : Int) = ((a &&& b : Nat) : Int) := by
  have hx : a &&& b < 2 ^ 64 := Nat.and_lt_two_pow _ hb
  unfold bAnd
  show Go.IntKind.u64.wrap (((BitVec.ofInt 64 (a : Int) &&& BitVec.ofInt 64 (b : Int)).toNat : Nat) : Int) = _
  rw [BitVec.ofInt_natCast, BitVec.ofInt_natCast, BitVec.toNat_and, BitVec.toNat_ofNat, BitVec.toNat_ofNat, Nat.mod_eq_of_lt ha, Nat.mod_eq_of_lt hb, wrap_u64]
  omega
theorem an8 {a b : Nat} (ha : a < 256) (hb : b < 256) : bAnd .u8 (a : Int) (b : Int) = ((a &&& b : Nat) : Int) := by
  have hx : a &&& b < 256 := Nat.and_lt_two_pow (n := 8) _ hb
  unfold bAnd
  show Go.IntKind.u8.wrap (((BitVec.ofInt 8 (a : Int) &&& BitVec.ofInt 8 (b : Int)).toNat : Nat) : Int) = _
  rw [BitVec.ofInt_natCast, BitVec.ofInt_natCast, BitVec.toNat_and, BitVec.toNat_ofNat, BitVec.toNat_ofNat, Nat.mod_eq_of_lt (by simpa using ha), Nat.mod_eq_of_lt (by simpa using hb), wrap_u8]
  omega
theorem wd_xor {x y : Int} (hx : Wd x) (hy : Wd y) : Wd (bXor .u64 x y) ∧ ∀ i, nb (bXor .u64 x y) i = (nb x i ^^ nb y i) := by
  obtain ⟨n, rfl, hn⟩ := hx.nat
  obtain ⟨m, rfl, hm⟩ := hy.nat
  have := Nat.xor_lt_two_pow hn hm
  rw [x64 hn hm]
  exact ⟨⟨by omega, by omega⟩, fun i => by rw [nb_nat, nb_nat, nb_nat, Nat.testBit_xor]⟩
theorem wd_or {x y : Int} (hx : Wd x) (hy : Wd y) : Wd (bOr .u64 x y) ∧ ∀ i, nb (bOr .u64 x y) i = (nb x i || nb y i) := by
  obtain ⟨n, rfl, hn⟩ := hx.nat
  obtain ⟨m, rfl, hm⟩ := hy.nat
  have := Nat.or_lt_two_pow hn hm
  rw [o64 hn hm]
  exact ⟨⟨by omega, by omega⟩, fun i => by rw [nb_nat, nb_nat, nb_nat, Nat.testBit_or]⟩
theorem wd_and {x y : Int} (hx : Wd x) (hy : Wd y) : Wd (bAnd .u64 x y) ∧ ∀ i, nb (bAnd .u64 x y) i = (nb x i && nb y i) := by
  obtain ⟨n, rfl, hn⟩ := hx.nat
  obtain ⟨m, rfl, hm⟩ := hy.nat
  have := Nat.and_lt_two_pow n hm
  rw [a64 hn hm]
  exact ⟨⟨by omega, by omega⟩, fun i => by rw [nb_nat, nb_nat, nb_nat, Nat.testBit_and]⟩
theorem fdiv_nat (n m : Nat) : (n : Int).fdiv ((2 : Int) ^ m) = ((n / 2 ^ m : Nat) : Int) := by
  have e : ((2 : Int) ^ m) = ((2 ^ m : Nat) : Int) := by simp
  rw [e, Int.fdiv_eq_ediv_of_nonneg _ (Int.natCast_nonneg _)]
  simp
theorem wd_shr {x : Int} (hx : Wd x) {s : Nat} (hs : s < 64) : Wd (iShr .u64 x (s : Int)) ∧ ∀ i, nb (iShr .u64 x (s : Int)) i = nb x (i + s) := by
  obtain ⟨n, rfl, hn⟩ := hx.nat
  have e : iShr .u64 (n : Int) (s : Int) = ((n / 2 ^ s : Nat) : Int) := by
    unfold iShr
    rw [Int.toNat_natCast, show Go.IntKind.u64.bits = 64 from rfl, Nat.min_eq_left (by omega), fdiv_nat]
  have h1 : n / 2 ^ s ≤ n := Nat.div_le_self _ _
  have h2 : ∀ i, (n / 2 ^ s).testBit i = n.testBit (i + s) := fun i => Nat.testBit_div_two_pow ..
  rw [e]
  generalize n / 2 ^ s = q at h1 h2
  exact ⟨⟨by omega, by omega⟩, fun i => by rw [nb_nat, nb_nat, h2]⟩
theorem wd_shl {x : Int} (hx : Wd x) {s : Nat} (hs : s < 64) : Wd (iShl .u64 x (s : Int)) ∧ ∀ i, nb (iShl .u64 x (s : Int)) i = (decide (i < 64) && (decide (s ≤ i) && nb x (i - s))) := by
  obtain ⟨n, rfl, hn⟩ := hx.nat
  have e : iShl .u64 (n : Int) (s : Int) = ((n * 2 ^ s % 2 ^ 64 : Nat) : Int) := by
    unfold iShl
    rw [Int.toNat_natCast, show Go.IntKind.u64.bits = 64 from rfl, Nat.min_eq_left (by omega), wrap_u64]
    simp
  have h1 : n * 2 ^ s % 2 ^ 64 < 2 ^ 64 := Nat.mod_lt _ (by decide)
  rw [e]
  refine ⟨⟨by omega, by omega⟩, fun i => ?_⟩
  rw [nb_nat, nb_nat, Nat.testBit_mod_two_pow, Nat.testBit_mul_two_pow]
theorem bt_xor {x y : Int} (hx : Bt x) (hy : Bt y) (i : Nat) : nb (bXor .u8 x y) i = (nb x i ^^ nb y i) := by
  obtain ⟨n, rfl, hn⟩ := hx.nat
  obtain ⟨m, rfl, hm⟩ := hy.nat
  rw [xn hn hm, nb_nat, nb_nat, nb_nat, Nat.testBit_xor]
theorem bt_or {x y : Int} (hx : Bt x) (hy : Bt y) (i : Nat) : nb (bOr .u8 x y) i = (nb x i || nb y i) := by
  obtain ⟨n, rfl, hn⟩ := hx.nat
  obtain ⟨m, rfl, hm⟩ := hy.nat
  rw [orn hn hm, nb_nat, nb_nat, nb_nat, Nat.testBit_or]
theorem bt_shr {x : Int} (hx : Bt x) {s : Nat} (hs : s < 8) : Bt (iShr .u8 x (s : Int)) ∧ ∀ i, nb (iShr .u8 x (s : Int)) i = nb x (i + s) := by
  obtain ⟨n, rfl, hn⟩ := hx.nat
  have e : iShr .u8 (n : Int) (s : Int) = ((n / 2 ^ s : Nat) : Int) := by
    unfold iShr
    rw [Int.toNat_natCast, show Go.IntKind.u8.bits = 8 from rfl, Nat.min_eq_left (by omega), fdiv_nat]
  have h1 : n / 2 ^ s ≤ n := Nat.div_le_self _ _
  have h2 : ∀ i, (n / 2 ^ s).testBit i = n.testBit (i + s) := fun i => Nat.testBit_div_two_pow ..
  rw [e]
  generalize n / 2 ^ s = q at h1 h2
  exact ⟨⟨by omega, by omega⟩, fun i => by rw [nb_nat, nb_nat, h2]⟩
/-- The lowest bit, as a number. -/
theorem bt_low {x : Int} (hx : Bt x) : bAnd .u8 x 1 = if nb x 0 then 1 else 0 := by
  obtain ⟨n, rfl, hn⟩ := hx.nat
  rw [show (1 : Int) = ((1 : Nat) : Int) from rfl, an8 hn (by decide), nb_nat, Nat.and_one_is_mod, Nat.testBit_zero]
  rcases Nat.mod_two_eq_zero_or_one n with h | h <;> simp [h]
theorem wd_low {x : Int} (hx : Wd x) : bAnd .u64 x 1 = if nb x 0 then 1 else 0 := by
  obtain ⟨n, rfl, hn⟩ := hx.nat
  rw [show (1 : Int) = ((1 : Nat) : Int) from rfl, a64 hn (by decide), nb_nat, Nat.and_one_is_mod, Nat.testBit_zero]
  rcases Nat.mod_two_eq_zero_or_one n with h | h <;> simp [h]
/-- What a mask of a bit leaves. -/
theorem wd_mask {x : Int} (hx : Wd x) (c : Bool) : Wd (bAnd .u64 x (Go.IntKind.u64.wrap (0 - (if c then 1 else 0)))) ∧ ∀ i, nb (bAnd .u64 x (Go.IntKind.u64.wrap (0 - (if c then 1 else 0)))) i = (c && nb x i) := by
  cases c
  · have e : Go.IntKind.u64.wrap (0 - (if false = true then 1 else 0)) = 0 := by rw [wrap_u64]; rfl
    rw [e]
    have h := wd_and hx (show Wd 0 from ⟨by decide, by decide⟩)
    refine ⟨h.1, fun i => ?_⟩
    rw [h.2, show nb 0 i = false by simp [nb]]
    simp
  · have e : Go.IntKind.u64.wrap (0 - (if true = true then 1 else 0)) = ((2 ^ 64 - 1 : Nat) : Int) := by rw [wrap_u64]; rfl
    rw [e]
    have h := wd_and hx (show Wd ((2 ^ 64 - 1 : Nat) : Int) from ⟨by decide, by decide⟩)
    refine ⟨h.1, fun i => ?_⟩
    rw [h.2, nb_nat, Nat.testBit_two_pow_sub_one]
    by_cases hi : i < 64
    · simp [hi]
    · rw [nb_hi hx (by omega)]; simp
end Am
