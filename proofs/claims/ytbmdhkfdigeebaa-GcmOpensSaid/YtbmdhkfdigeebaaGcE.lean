/-
Working texts: contracts of functions, and the numbers behind them.
-/
import Derived.Test.YtbmdhkfdigeebaaGcD
import Derived.Test.YtbmdhkfdigeebaaAeS
import Derived.Test.YtbmdhkfdigeebaaIrE
set_option linter.unusedSimpArgs false
set_option linter.unusedVariables false
set_option linter.unusedSectionVars false
set_option linter.unusedSimpArgs false
set_option linter.unusedVariables false
set_option maxRecDepth 20000
namespace Am
open Go.Proofs
/-! ### Sealing and opening, as plain laws -/
theorem xx_self {x f : Int} (hx : Bt x) (hf : Bt f) : bXor .u8 (bXor .u8 x f) f = x := by
  obtain ⟨n, rfl, hn⟩ := hx.nat
  obtain ⟨m, rfl, hm⟩ := hf.nat
  rw [xn hn hm, xn (Nat.xor_lt_two_pow (n := 8) hn hm) hm, Nat.xor_assoc, Nat.xor_self, Nat.xor_zero]
theorem xx_four {a b f : Int} (ha : Bt a) (hb : Bt b) (hf : Bt f) : bXor .u8 (bXor .u8 a f) (bXor .u8 b f) = bXor .u8 a b := by
  obtain ⟨n, rfl, hn⟩ := ha.nat
  obtain ⟨m, rfl, hm⟩ := hb.nat
  obtain ⟨k, rfl, hk⟩ := hf.nat
  rw [xn hn hk, xn hm hk, xn (Nat.xor_lt_two_pow (n := 8) hn hk) (Nat.xor_lt_two_pow (n := 8) hm hk), xn hn hm]
  congr 1
  apply Nat.eq_of_testBit_eq
  intro i
  simp only [Nat.testBit_xor]
  cases n.testBit i <;> cases m.testBit i <;> cases k.testBit i <;> rfl
theorem orn {a b : Nat} (ha : a < 256) (hb : b < 256) : bOr .u8 (a : Int) (b : Int) = ((a ||| b : Nat) : Int) := by
  have hx : a ||| b < 256 := Nat.or_lt_two_pow (n := 8) ha hb
  unfold bOr
  show Go.IntKind.u8.wrap (((BitVec.ofInt 8 (a : Int) ||| BitVec.ofInt 8 (b : Int)).toNat : Nat) : Int) = _
  rw [BitVec.ofInt_natCast, BitVec.ofInt_natCast, BitVec.toNat_or, BitVec.toNat_ofNat, BitVec.toNat_ofNat, Nat.mod_eq_of_lt (by simpa using ha), Nat.mod_eq_of_lt (by simpa using hb), wrap_u8]
  omega
theorem or_zero' {a b : Nat} : a ||| b = 0 ↔ a = 0 ∧ b = 0 := by
  constructor
  · intro h
    have h1 : a ≤ a ||| b := Nat.left_le_or
    have h2 : b ≤ a ||| b := Nat.right_le_or
    omega
  · rintro ⟨rfl, rfl⟩; rfl
theorem or_bt {a b : Int} (ha : Bt a) (hb : Bt b) : Bt (bOr .u8 a b) ∧ (bOr .u8 a b = 0 ↔ a = 0 ∧ b = 0) := by
  obtain ⟨n, rfl, hn⟩ := ha.nat
  obtain ⟨m, rfl, hm⟩ := hb.nat
  have hx : n ||| m < 256 := Nat.or_lt_two_pow (n := 8) hn hm
  rw [orn hn hm]
  refine ⟨⟨by omega, by omega⟩, ?_⟩
  have := or_zero' (a := n) (b := m)
  omega
theorem xor_zero' {a b : Int} (ha : Bt a) (hb : Bt b) : bXor .u8 a b = 0 ↔ a = b := by
  obtain ⟨n, rfl, hn⟩ := ha.nat
  obtain ⟨m, rfl, hm⟩ := hb.nat
  rw [xn hn hm]
  constructor
  · intro h
    have h0 : n ^^^ m = 0 := by omega
    have := congrArg (· ^^^ m) h0
    simp only [Nat.xor_assoc, Nat.xor_self, Nat.xor_zero, Nat.zero_xor] at this
    rw [this]
  · intro h
    have : n = m := by omega
    rw [this, Nat.xor_self]; rfl
theorem df_iff {t u : List Int} (ht : B16 t) (hu : B16 u) : dfF t u = 0 ↔ t = u := by
  have bt : ∀ j, Bt (getI t j) := fun j => ht.2.all (by decide) j
  have bu : ∀ j, Bt (getI u j) := fun j => hu.2.all (by decide) j
  have key : ∀ n, Bt (itr (dfS t u) 0 n) ∧ (itr (dfS t u) 0 n = 0 ↔ ∀ j, j < n → getI t j = getI u j) := by
    intro n
    induction n with
    | zero => exact ⟨⟨by simp [itr], by simp [itr]⟩, ⟨fun _ j hj => by omega, fun _ => rfl⟩⟩
    | succ n ih =>
      rw [itr_s]
      have hx : Bt (bXor .u8 (getI t n) (getI u n)) := x8_bd _ _
      obtain ⟨h1, h2⟩ := or_bt ih.1 hx
      refine ⟨h1, ?_⟩
      show bOr .u8 (itr (dfS t u) 0 n) (bXor .u8 (getI t n) (getI u n)) = 0 ↔ _
      rw [h2, ih.2, xor_zero' (bt n) (bu n)]
      constructor
      · rintro ⟨h3, h4⟩ j hj
        rcases (by omega : j < n ∨ j = n) with h | rfl
        · exact h3 j h
        · exact h4
      · intro h
        exact ⟨fun j hj => h j (by omega), h n (by omega)⟩
  rw [dfF, (key 16).2]
  constructor
  · intro h
    exact getI_ext (ht.1.trans hu.1.symm) fun j hj => h j (by rw [ht.1] at hj; exact hj)
  · rintro rfl j _; rfl
theorem ks_bt {L n : List Int} (hL : L432 L) (hn : B12 n) (j : Nat) : Bt (ksAt L n j) := (strB_ok hL hn _).2.all (by decide) _
theorem xorAt_twice {f : Nat → Int} (hf : ∀ j, Bt (f j)) : ∀ {b : List Int} {o : Nat}, Dig 256 b → xorAt f (xorAt f b o) o = b
  | [], _, _ => rfl
  | x :: r, o, h => by
    simp only [xorAt]
    rw [xx_self (h x (by simp)) (hf o), xorAt_twice hf fun y hy => h y (by simp [hy])]
theorem xorAt_append {f : Nat → Int} : ∀ {a b : List Int} {o : Nat}, xorAt f (a ++ b) o = xorAt f a o ++ xorAt f b (o + a.length)
  | [], _, _ => by simp [xorAt]
  | x :: r, b, o => by
    simp only [List.cons_append, xorAt]
    rw [xorAt_append (a := r), List.length_cons, show o + 1 + r.length = o + (r.length + 1) by omega]
theorem str_twice {L n b : List Int} (hL : L432 L) (hn : B12 n) (hb : Dig 256 b) : strF L n (strF L n b) = b := xorAt_twice (ks_bt hL hn) hb
theorem seal_len (k n a b : List Int) : (sealF k n a b).length = b.length + 16 := by
  simp [sealF, str_len, (tag_ok _ _ _ _).1]
theorem seal_dig (k n a b : List Int) : Dig 256 (sealF k n a b) := (str_dig _ _ _).append (tag_ok _ _ _ _).2
theorem sub_drop {b : List Int} (h : 16 ≤ b.length) : b = bodyF b ++ b.drop (b.length - 16) := by
  simp [bodyF, sub]
/-- What is opened is just what was sealed. -/
theorem opn_iff {k n a b : List Int} (hb : Dig 256 b) : opnB k n a b = true ↔ 16 ≤ b.length ∧ tagF (newF k) n a (bodyF b) = b.drop (b.length - 16) := by
  unfold opnB
  split
  · rename_i h
    constructor
    · intro h; cases h
    · intro h; omega
  · rename_i h
    have hd : B16 (b.drop (b.length - 16)) := ⟨by simp; omega, fun x hx => hb x (List.mem_of_mem_drop hx)⟩
    rw [rightB, decide_eq_true_eq, df_iff (tag_ok _ _ _ _) hd]
    constructor
    · intro h2; exact ⟨by omega, h2⟩
    · intro h2; exact h2.2
theorem opn_seal (k n a b : List Int) (hk : B16 k) (hn : B12 n) (hb : Dig 256 b) : opnB k n a (sealF k n a b) = true ∧ opnS k n a (sealF k n a b) = b := by
  have hl := seal_len k n a b
  have hbd : bodyF (sealF k n a b) = strF (newF k) n b := by
    rw [bodyF, hl, sealF]
    simp [sub, str_len]
  have h : opnB k n a (sealF k n a b) = true := by
    rw [opn_iff (seal_dig _ _ _ _)]
    refine ⟨by omega, ?_⟩
    rw [hbd, hl, sealF]
    simp [str_len]
  refine ⟨h, ?_⟩
  rw [opnS, h, if_pos rfl, hbd, str_twice (new_ok hk) hn hb]
theorem seal_opn {k n a b : List Int} (hk : B16 k) (hn : B12 n) (hb : Dig 256 b) (h : opnB k n a b = true) : sealF k n a (opnS k n a b) = b := by
  obtain ⟨h1, h2⟩ := (opn_iff hb).1 h
  have hbd : Dig 256 (bodyF b) := sub_dig' hb
  rw [opnS, h, if_pos rfl, sealF, str_twice (new_ok hk) hn hbd, h2, ← sub_drop h1]
theorem opn_len {k n a b : List Int} (h : opnB k n a b = true) (hb : Dig 256 b) : (opnS k n a b).length = b.length - 16 := by
  rw [opnS, h, if_pos rfl, str_len]; simp [bodyF, sub]
theorem opn_dig {k n a b : List Int} : Dig 256 (opnS k n a b) := by
  unfold opnS; split
  · exact str_dig _ _ _
  · exact fun x hx => by simp at hx
def z12 : List Int := List.replicate 12 0
theorem z12_ok : B12 z12 := ⟨rfl, fun x hx => by rw [(List.mem_replicate.1 hx).2]; decide⟩
def t09 : List Int := [88, 226, 252, 206, 250, 126, 48, 97, 54, 127, 29, 87, 164, 231, 69, 90]
theorem aw09 : jn (hashF (encR SB z16 z16) [] []) (encR SB z16 (ctrF z12 1)) 16 = t09 := by decide +kernel
theorem seal09 : sealF z16 z12 [] [] = t09 := by
  rw [sealF, show strF (newF z16) z12 [] = [] from rfl, List.nil_append, tagF, aes_eq z16_ok z16_ok, aes_eq z16_ok (ctr_ok z12_ok), box_SB, aw09]
/-! ### Awake -/
def preE9 (ds : List D) : Prop := ds = []
def F19 : List D → Out
  | _ => .one (.v (.bool true))
def s19 : Summ := sData [] preE9 F19
set_option maxHeartbeats 4000000 in
theorem ok19 {g : List Blk} [Ge gl g] : SumOK Try.prog g 19 s19 ∧ SumAbs s19 := by
  refine fsumA (l := [(20, s20)]) mixed gl_plain rfl Try.func19 comp19 compR19 nt19 (by simp only [List.mem_cons, List.not_mem_nil, or_false, forall_eq]; exact ok20) fun ds hd hA => ?_
  rw [hd]
  have hn : Dig 256 ([] : List Int) := fun x hx => by simp at hx
  have q : preSl [.v (.ints .u8 z16), .v (.ints .u8 z12), .s .u8 [], .s .u8 []] := ⟨_, _, _, _, rfl, z16_ok, z12_ok, hn, by decide, hn, by decide⟩
  have f : F20 [.v (.ints .u8 z16), .v (.ints .u8 z12), .s .u8 [], .s .u8 []] = .one (.s .u8 t09) := by
    show Out.one (.s .u8 (sealF z16 z12 [] [])) = _
    rw [seal09]
  have tl : t09.length = 16 := rfl
  have g0 : getI t09 0 = 88 := rfl
  have g1 : getI t09 1 = 226 := rfl
  have g2 : getI t09 2 = 252 := rfl
  have g3 : getI t09 15 = 90 := rfl
  simp only [z16, z12, List.reduceReplicate] at q f
  simp only [s20]
  simp only [ir19, rs19, gl, F19, q, f, tl, g0, g1, g2, g3, sub_zero, qda, qai, List.length_cons, List.length_nil, Nat.reduceAdd, Nat.le_refl, Nat.reduceLeDiff, Nat.reduceLT, true_and, and_true, ↓evA, evB, evs, evp, mkB, repB, blen, ↓retQ, res, resAll, resOne, kill, apartOk, exp, injV, injB, pur, purs, purR, pursR, List.reduceReplicate, Nat.reduceAdd, Nat.reduceMul, Nat.reduceSub, Nat.reduceEqDiff, Nat.reduceLT, Int.reduceToNat, Int.reduceLE, Int.reduceLT, Int.reduceEq, reduceCtorEq, ↓reduceIte]
  repeat (refine And.intro (by omega) ?_)
  simp only [out, outs, out1, pur, and_self]
end Am
set_option linter.unusedSimpArgs false
set_option linter.unusedVariables false
set_option maxRecDepth 20000
namespace Am
open Go.Proofs
def FTrue09 : List D → Out := fun _ => .one (.v (.bool true))
def preKN (ds : List D) : Prop := ∃ k n a b : List Int, ds = [.v (.ints .u8 k), .v (.ints .u8 n), .s .u8 a, .s .u8 b] ∧ B16 k ∧ B12 n ∧ Dig 256 a ∧ Dig 256 b
theorem getI_app {a b : List Int} {j : Nat} (h : j < a.length) : getI (a ++ b) j = getI a j := by
  simp [getI, List.getD_eq_getElem?_getD, List.getElem?_append_left h]
end Am
set_option linter.unusedSimpArgs false
set_option linter.unusedVariables false
set_option maxRecDepth 20000
namespace Am
open Go.Proofs
/-! ### The product of two blocks, bit by bit -/
def nb (x : Int) (i : Nat) : Bool := x.toNat.testBit i
def Wd (x : Int) : Prop := 0 ≤ x ∧ x < 18446744073709551616
theorem Wd.nat {x : Int} (h : Wd x) : ∃ n : Nat, x = n ∧ n < 2 ^ 64 := by
  obtain ⟨n, rfl⟩ := Int.eq_ofNat_of_zero_le h.1
  exact ⟨n, rfl, by have := h.2; omega⟩
theorem nb_nat (n i : Nat) : nb (n : Int) i = n.testBit i := by simp [nb]
theorem nb_hi {x : Int} (h : Wd x) {i : Nat} (hi : 64 ≤ i) : nb x i = false := by
  obtain ⟨n, rfl, hn⟩ := h.nat
  rw [nb_nat]
  exact Nat.testBit_lt_two_pow (Nat.lt_of_lt_of_le hn (Nat.pow_le_pow_right (by decide) hi))
theorem nb_hi8 {x : Int} (h : Bt x) {i : Nat} (hi : 8 ≤ i) : nb x i = false := by
  obtain ⟨n, rfl, hn⟩ := h.nat
  rw [nb_nat]
  exact Nat.testBit_lt_two_pow (Nat.lt_of_lt_of_le (show n < 2 ^ 8 from hn) (Nat.pow_le_pow_right (by decide) hi))
theorem wd_ext {x y : Int} (hx : Wd x) (hy : Wd y) (h : ∀ i, i < 64 → nb x i = nb y i) : x = y := by
  have : ∀ i, nb x i = nb y i := fun i => by
    by_cases hi : i < 64
    · exact h i hi
    · rw [nb_hi hx (by omega), nb_hi hy (by omega)]
  obtain ⟨n, rfl, hn⟩ := hx.nat
  obtain ⟨m, rfl, hm⟩ := hy.nat
  congr 1
  refine Nat.eq_of_testBit_eq fun i => ?_
  have := this i
  rwa [nb_nat, nb_nat] at this
theorem x64 {a b : Nat} (ha : a < 2 ^ 64) (hb : b < 2 ^ 64) : bXor .u64 (a : Int) (b : Int) = ((a ^^^ b : Nat) : Int) := by
  have hx : a ^^^ b < 2 ^ 64 := Nat.xor_lt_two_pow ha hb
  unfold bXor
  show Go.IntKind.u64.wrap (((BitVec.ofInt 64 (a : Int) ^^^ BitVec.ofInt 64 (b : Int)).toNat : Nat) : Int) = _
  rw [BitVec.ofInt_natCast, BitVec.ofInt_natCast, BitVec.toNat_xor, BitVec.toNat_ofNat, BitVec.toNat_ofNat, Nat.mod_eq_of_lt ha, Nat.mod_eq_of_lt hb, wrap_u64]
  omega
theorem o64 {a b : Nat} (ha : a < 2 ^ 64) (hb : b < 2 ^ 64) : bOr .u64 (a : Int) (b : Int) = ((a ||| b : Nat) : Int) := by
  have hx : a ||| b < 2 ^ 64 := Nat.or_lt_two_pow ha hb
  unfold bOr
  show Go.IntKind.u64.wrap (((BitVec.ofInt 64 (a : Int) ||| BitVec.ofInt 64 (b : Int)).toNat : Nat) : Int) = _
  rw [BitVec.ofInt_natCast, BitVec.ofInt_natCast, BitVec.toNat_or, BitVec.toNat_ofNat, BitVec.toNat_ofNat, Nat.mod_eq_of_lt ha, Nat.mod_eq_of_lt hb, wrap_u64]
  omega
theorem a64 {a b : Nat} (ha : a < 2 ^ 64) (hb : b < 2 ^ 64) : bAnd .u64 (a : Int) (b : Int) = ((a &&& b : Nat) : Int) := by
  have hx : a &&& b < 2 ^ 64 := Nat.and_lt_two_pow _ hb
  unfold bAnd
  show Go.IntKind.u64.wrap (((BitVec.ofInt 64 (a : Int) &&& BitVec.ofInt 64 (b : Int)).toNat : Nat) : Int) = _
  rw [BitVec.ofInt_natCast, BitVec.ofInt_natCast, BitVec.toNat_and, BitVec.toNat_ofNat, BitVec.toNat_ofNat, Nat.mod_eq_of_lt ha, Nat.mod_eq_of_lt hb, wrap_u64]
  omega
theorem an8 {a b : Nat} (ha : a < 256) (hb : b < 256) : bAnd .u8 (a : Int) (b : Int) = ((a &&& b : Nat) : Int) := by
  have hx : a &&& b < 256 := Nat.and_lt_two_pow (n := 8) _ hb
  unfold bAnd
  show Go.IntKind.u8.wrap (((BitVec.ofInt 8 (a : Int) &&& BitVec.ofInt 8 (b : Int)).toNat : Nat) : Int) = _
  rw [BitVec.ofInt_natCast, BitVec.ofInt_natCast, BitVec.toNat_and, BitVec.toNat_ofNat, BitVec.toNat_ofNat, Nat.mod_eq_of_lt (by simpa using ha), Nat.mod_eq_of_lt (by simpa using hb), wrap_u8]
  omega
theorem wd_xor {x y : Int} (hx : Wd x) (hy : Wd y) : Wd (bXor .u64 x y) ∧ ∀ i, nb (bXor .u64 x y) i = (nb x i ^^ nb y i) := by
  obtain ⟨n, rfl, hn⟩ := hx.nat
  obtain ⟨m, rfl, hm⟩ := hy.nat
  have := Nat.xor_lt_two_pow hn hm
  rw [x64 hn hm]
  exact ⟨⟨by omega, by omega⟩, fun i => by rw [nb_nat, nb_nat, nb_nat, Nat.testBit_xor]⟩
theorem wd_or {x y : Int} (hx : Wd x) (hy : Wd y) : Wd (bOr .u64 x y) ∧ ∀ i, nb (bOr .u64 x y) i = (nb x i || nb y i) := by
  obtain ⟨n, rfl, hn⟩ := hx.nat
  obtain ⟨m, rfl, hm⟩ := hy.nat
  have := Nat.or_lt_two_pow hn hm
  rw [o64 hn hm]
  exact ⟨⟨by omega, by omega⟩, fun i => by rw [nb_nat, nb_nat, nb_nat, Nat.testBit_or]⟩
theorem wd_and {x y : Int} (hx : Wd x) (hy : Wd y) : Wd (bAnd .u64 x y) ∧ ∀ i, nb (bAnd .u64 x y) i = (nb x i && nb y i) := by
  obtain ⟨n, rfl, hn⟩ := hx.nat
  obtain ⟨m, rfl, hm⟩ := hy.nat
  have := Nat.and_lt_two_pow n hm
  rw [a64 hn hm]
  exact ⟨⟨by omega, by omega⟩, fun i => by rw [nb_nat, nb_nat, nb_nat, Nat.testBit_and]⟩
theorem fdiv_nat (n m : Nat) : (n : Int).fdiv ((2 : Int) ^ m) = ((n / 2 ^ m : Nat) : Int) := by
  have e : ((2 : Int) ^ m) = ((2 ^ m : Nat) : Int) := by simp
  rw [e, Int.fdiv_eq_ediv_of_nonneg _ (Int.natCast_nonneg _)]
  simp
theorem wd_shr {x : Int} (hx : Wd x) {s : Nat} (hs : s < 64) : Wd (iShr .u64 x (s : Int)) ∧ ∀ i, nb (iShr .u64 x (s : Int)) i = nb x (i + s) := by
  obtain ⟨n, rfl, hn⟩ := hx.nat
  have e : iShr .u64 (n : Int) (s : Int) = ((n / 2 ^ s : Nat) : Int) := by
    unfold iShr
    rw [Int.toNat_natCast, show Go.IntKind.u64.bits = 64 from rfl, Nat.min_eq_left (by omega), fdiv_nat]
  have h1 : n / 2 ^ s ≤ n := Nat.div_le_self _ _
  have h2 : ∀ i, (n / 2 ^ s).testBit i = n.testBit (i + s) := fun i => Nat.testBit_div_two_pow ..
  rw [e]
  generalize n / 2 ^ s = q at h1 h2
  exact ⟨⟨by omega, by omega⟩, fun i => by rw [nb_nat, nb_nat, h2]⟩
theorem wd_shl {x : Int} (hx : Wd x) {s : Nat} (hs : s < 64) : Wd (iShl .u64 x (s : Int)) ∧ ∀ i, nb (iShl .u64 x (s : Int)) i = (decide (i < 64) && (decide (s ≤ i) && nb x (i - s))) := by
  obtain ⟨n, rfl, hn⟩ := hx.nat
  have e : iShl .u64 (n : Int) (s : Int) = ((n * 2 ^ s % 2 ^ 64 : Nat) : Int) := by
    unfold iShl
    rw [Int.toNat_natCast, show Go.IntKind.u64.bits = 64 from rfl, Nat.min_eq_left (by omega), wrap_u64]
    simp
  have h1 : n * 2 ^ s % 2 ^ 64 < 2 ^ 64 := Nat.mod_lt _ (by decide)
  rw [e]
  refine ⟨⟨by omega, by omega⟩, fun i => ?_⟩
  rw [nb_nat, nb_nat, Nat.testBit_mod_two_pow, Nat.testBit_mul_two_pow]
theorem bt_xor {x y : Int} (hx : Bt x) (hy : Bt y) (i : Nat) : nb (bXor .u8 x y) i = (nb x i ^^ nb y i) := by
  obtain ⟨n, rfl, hn⟩ := hx.nat
  obtain ⟨m, rfl, hm⟩ := hy.nat
  rw [xn hn hm, nb_nat, nb_nat, nb_nat, Nat.testBit_xor]
theorem bt_or {x y : Int} (hx : Bt x) (hy : Bt y) (i : Nat) : nb (bOr .u8 x y) i = (nb x i || nb y i) := by
  obtain ⟨n, rfl, hn⟩ := hx.nat
  obtain ⟨m, rfl, hm⟩ := hy.nat
  rw [orn hn hm, nb_nat, nb_nat, nb_nat, Nat.testBit_or]
theorem bt_shr {x : Int} (hx : Bt x) {s : Nat} (hs : s < 8) : Bt (iShr .u8 x (s : Int)) ∧ ∀ i, nb (iShr .u8 x (s : Int)) i = nb x (i + s) := by
  obtain ⟨n, rfl, hn⟩ := hx.nat
  have e : iShr .u8 (n : Int) (s : Int) = ((n / 2 ^ s : Nat) : Int) := by
    unfold iShr
    rw [Int.toNat_natCast, show Go.IntKind.u8.bits = 8 from rfl, Nat.min_eq_left (by omega), fdiv_nat]
  have h1 : n / 2 ^ s ≤ n := Nat.div_le_self _ _
  have h2 : ∀ i, (n / 2 ^ s).testBit i = n.testBit (i + s) := fun i => Nat.testBit_div_two_pow ..
  rw [e]
  generalize n / 2 ^ s = q at h1 h2
  exact ⟨⟨by omega, by omega⟩, fun i => by rw [nb_nat, nb_nat, h2]⟩
/-- The lowest bit, as a number. -/
theorem bt_low {x : Int} (hx : Bt x) : bAnd .u8 x 1 = if nb x 0 then 1 else 0 := by
  obtain ⟨n, rfl, hn⟩ := hx.nat
  rw [show (1 : Int) = ((1 : Nat) : Int) from rfl, an8 hn (by decide), nb_nat, Nat.and_one_is_mod, Nat.testBit_zero]
  rcases Nat.mod_two_eq_zero_or_one n with h | h <;> simp [h]
theorem wd_low {x : Int} (hx : Wd x) : bAnd .u64 x 1 = if nb x 0 then 1 else 0 := by
  obtain ⟨n, rfl, hn⟩ := hx.nat
  rw [show (1 : Int) = ((1 : Nat) : Int) from rfl, a64 hn (by decide), nb_nat, Nat.and_one_is_mod, Nat.testBit_zero]
  rcases Nat.mod_two_eq_zero_or_one n with h | h <;> simp [h]
/-- What a mask of a bit leaves. -/
theorem wd_mask {x : Int} (hx : Wd x) (c : Bool) : Wd (bAnd .u64 x (Go.IntKind.u64.wrap (0 - (if c then 1 else 0)))) ∧ ∀ i, nb (bAnd .u64 x (Go.IntKind.u64.wrap (0 - (if c then 1 else 0)))) i = (c && nb x i) := by
  cases c
  · have e : Go.IntKind.u64.wrap (0 - (if false = true then 1 else 0)) = 0 := by rw [wrap_u64]; rfl
    rw [e]
    have h := wd_and hx (show Wd 0 from ⟨by decide, by decide⟩)
    refine ⟨h.1, fun i => ?_⟩
    rw [h.2, show nb 0 i = false by simp [nb]]
    simp
  · have e : Go.IntKind.u64.wrap (0 - (if true = true then 1 else 0)) = ((2 ^ 64 - 1 : Nat) : Int) := by rw [wrap_u64]; rfl
    rw [e]
    have h := wd_and hx (show Wd ((2 ^ 64 - 1 : Nat) : Int) from ⟨by decide, by decide⟩)
    refine ⟨h.1, fun i => ?_⟩
    rw [h.2, nb_nat, Nat.testBit_two_pow_sub_one]
    by_cases hi : i < 64
    · simp [hi]
    · rw [nb_hi hx (by omega)]; simp
end Am
set_option linter.unusedSimpArgs false
set_option linter.unusedVariables false
set_option maxRecDepth 20000
namespace Am
open Go.Proofs
/-! ### The reference's counter -/
def cpS (n : List Int) (s : List Int) (i : Nat) : List Int := s.set i (getI n i)
def crF (n : List Int) (m : Nat) : List Int := ((itr (cpS n) z16 12).set 14 (Go.IntKind.u8.wrap ((m / 256 : Nat) : Int))).set 15 (Go.IntKind.u8.wrap ((m % 256 : Nat) : Int))
def preCr (ds : List D) : Prop := ∃ (n : List Int) (m : Nat), ds = [.v (.ints .u8 n), .v (.int .i64 (m : Int))] ∧ B12 n ∧ m < 65536
def F31 : List D → Out
  | [.v (.ints _ n), .v (.int _ m)] => .one (.v (.ints .u8 (crF n m.toNat)))
  | _ => bad
def s31 : Summ := sData [.v, .v] preCr F31
theorem cpS_ok {n : List Int} (h : B12 n) (m : Nat) : B16 (itr (cpS n) z16 m) :=
  itr_inv (fun _ (s : List Int) => B16 s) z16_ok (fun j s hs => ⟨by simp [cpS, hs.1], hs.2.set _ (h.2.all (by decide) j).1 (h.2.all (by decide) j).2⟩) m
theorem crF_ok {n : List Int} (h : B12 n) (m : Nat) : B16 (crF n m) :=
  ⟨by simp [crF, (cpS_ok h 12).1], ((cpS_ok h 12).2.set _ (w8_bd _).1 (w8_bd _).2).set _ (w8_bd _).1 (w8_bd _).2⟩
set_option maxHeartbeats 2000000 in
theorem ok31 {g : List Blk} [Ge gl g] : SumOK Try.prog g 31 s31 ∧ SumAbs s31 := by
  refine fsumA (l := []) mixed gl_plain rfl Try.func31 comp31 compR31 nt31 (by simp) fun ds ⟨n, m, hd, hn, hm⟩ hA => ?_
  subst hd
  have hnl := hn.1
  have hF : F31 [.v (.ints .u8 n), .v (.int .i64 (m : Int))] = .one (.v (.ints .u8 (crF n m))) := by
    show Out.one (.v (.ints .u8 (crF n ((m : Int).toNat)))) = _
    rw [Int.toNat_natCast]
  have sn : sub n 0 12 = n := sub_zero hnl
  simp only [ir31, rs31, gl, hF, sn, hnl, sub_zero, qda, qai, List.length_cons, List.length_nil, Nat.reduceAdd, Nat.le_refl, Nat.reduceLeDiff, Nat.reduceLT, true_and, and_true, ↓evA, evB, evs, evp, mkB, repB, blen, ↓retQ, res, resAll, resOne, kill, apartOk, exp, injV, injB, pur, purs, purR, pursR, List.reduceReplicate, Nat.reduceAdd, Nat.reduceMul, Nat.reduceSub, Nat.reduceEqDiff, Nat.reduceLT, Int.reduceToNat, Int.reduceLE, Int.reduceLT, Int.reduceEq, reduceCtorEq, ↓reduceIte]
  refine awp_loopA (n := 25) hA [1, 2, 4, 5, 6] (by decide +kernel) (fun i : Nat => [.int .i64 (m : Int), .ptr 4 0, .ptr 5 0, .ptr 6 0, .int .i64 i])
    (fun i => [.dead, .dead, .dead, .dead, .ints false .u8 n, .ints false .u8 [0, 0, 0, 0, 0, 0, 0, 0, 0, 0, 0, 0, 0, 0, 0, 0], .ints false .u8 (itr (cpS n) z16 i)]) (fun i => i ≤ 12) (fun i => 12 - i) 0 ?_ (by omega) ?_
  · refine Hd.same ?_
    simp only [itr, z16, List.map_cons, List.map_nil, Nat.reduceLT, nth_asl, look_cons, look_nil, reduceCtorEq, ↓reduceIte, Nat.reduceEqDiff, Int.cast_ofNat_Int, List.append_nil, List.cons_append, List.nil_append, asl_length, and_true, true_and, Nat.zero_add, Nat.add_zero, Nat.reduceAdd, qcy, qcz, List.reduceReplicate]
  intro i hi K hK
  have hB := cpS_ok hn i
  by_cases hlt : i < 12
  · have c1 : (i : Int) < 12 := by omega
    have wi : Go.IntKind.i64.wrap ((i : Int) + 1) = ((i + 1 : Nat) : Int) := by rw [wrap_i64]; omega
    have hx : itr (cpS n) z16 (i + 1) = cpS n (itr (cpS n) z16 i) i := rfl
    obtain ⟨s, hs⟩ : ∃ s, itr (cpS n) z16 i = s := ⟨_, rfl⟩
    rw [hs] at hx hB ⊢
    have hl := hB.1
    have b2 : i < 16 := by omega
    simp only [c1, wi, hl, hnl, hlt, b2, sub_zero, qda, qai, List.length_cons, List.length_nil, Nat.reduceAdd, Nat.le_refl, Nat.reduceLeDiff, Nat.reduceLT, true_and, and_true, ↓evA, evB, evs, evp, mkB, repB, blen, ↓retQ, res, resAll, resOne, kill, apartOk, exp, injV, injB, pur, purs, purR, pursR, List.reduceReplicate, Nat.reduceAdd, Nat.reduceMul, Nat.reduceSub, Nat.reduceEqDiff, Nat.reduceLT, Int.reduceToNat, Int.reduceLE, Int.reduceLT, Int.reduceEq, reduceCtorEq, ↓reduceIte]
    repeat (refine And.intro (by omega) ?_)
    refine ⟨i + 1, hK _ (by omega) (by omega), Hd.same ?_⟩
    simp only [hx, cpS, List.map_cons, List.map_nil, Nat.reduceLT, nth_asl, look_cons, look_nil, reduceCtorEq, ↓reduceIte, Nat.reduceEqDiff, Int.cast_ofNat_Int, List.append_nil, List.cons_append, List.nil_append, asl_length, and_true, true_and, Nat.zero_add, Nat.add_zero, Nat.reduceAdd, qcy, qcz, List.reduceReplicate]
  obtain rfl : i = 12 := by omega
  have c1 : ¬((12 : Nat) : Int) < 12 := by omega
  have hR : crF n m = ((itr (cpS n) z16 12).set 14 (Go.IntKind.u8.wrap ((m / 256 : Nat) : Int))).set 15 (Go.IntKind.u8.wrap ((m % 256 : Nat) : Int)) := rfl
  have hRB := crF_ok hn m
  obtain ⟨s, hs⟩ : ∃ s, itr (cpS n) z16 12 = s := ⟨_, rfl⟩
  rw [hs] at hR hB ⊢
  have hl := hB.1
  have n256 : ¬ (256 : Int) = 0 := by decide
  have wd : Go.IntKind.i64.wrap ((m : Int).tdiv 256) = ((m / 256 : Nat) : Int) := by
    rw [Int.tdiv_eq_ediv_of_nonneg (by omega), wrap_i64]; omega
  have wm : (m : Int).tmod 256 = ((m % 256 : Nat) : Int) := tmod_nat (k := 256)
  obtain ⟨R, hRR⟩ : ∃ R, crF n m = R := ⟨_, rfl⟩
  rw [hRR] at hR hRB ⊢
  have hRl := hRB.1
  have sR : sub R 0 16 = R := sub_zero hRl
  have pR : spl [0, 0, 0, 0, 0, 0, 0, 0, 0, 0, 0, 0, 0, 0, 0, 0] 0 R = R := qda (by simp [hRl])
  simp only [c1, n256, wd, wm, hl, ← hR, sR, pR, List.length_set, sub_zero, qda, qai, List.length_cons, List.length_nil, Nat.reduceAdd, Nat.le_refl, Nat.reduceLeDiff, Nat.reduceLT, true_and, and_true, ↓evA, evB, evs, evp, mkB, repB, blen, ↓retQ, res, resAll, resOne, kill, apartOk, exp, injV, injB, pur, purs, purR, pursR, List.reduceReplicate, Nat.reduceAdd, Nat.reduceMul, Nat.reduceSub, Nat.reduceEqDiff, Nat.reduceLT, Int.reduceToNat, Int.reduceLE, Int.reduceLT, Int.reduceEq, reduceCtorEq, ↓reduceIte]
  repeat (refine And.intro (by omega) ?_)
  simp only [out, outs, out1, pur, and_self]
/-! ### The reference's product -/
def bkB (a : List Int) (i : Nat) : Int := bAnd .u8 (iShr .u8 (getI a (i / 8)) ((7 - i % 8 : Nat) : Int)) 1
def shS (r : List Int × Int) (k : Nat) : List Int × Int := (r.1.set k (bOr .u8 (iShr .u8 (getI r.1 k) 1) (iShl .u8 r.2 7)), bAnd .u8 (getI r.1 k) 1)
def shI (b : List Int) (n : Nat) : List Int × Int := itr shS (b, 0) n
def shF (b : List Int) : List Int := if (shI b 16).2 = 1 then (shI b 16).1.set 0 (bXor .u8 (getI (shI b 16).1 0) 225) else (shI b 16).1
def bkS (a : List Int) (s : List Int × List Int) (i : Nat) : List Int × List Int := (if bkB a i = 1 then jn s.1 s.2 16 else s.1, shF s.2)
def bkI (a b : List Int) (n : Nat) : List Int × List Int := itr (bkS a) (z16, b) n
def bkF (a b : List Int) : List Int := (bkI a b 128).1
theorem shI_len {b : List Int} (h : b.length = 16) (n : Nat) : (shI b n).1.length = 16 :=
  itr_inv (fun _ (s : List Int × Int) => s.1.length = 16) h (fun n s hs => by simp [shS, hs]) n
theorem shF_len {b : List Int} (h : b.length = 16) : (shF b).length = 16 := by
  unfold shF; split
  · rw [List.length_set]; exact shI_len h 16
  · exact shI_len h 16
theorem bkI_len {a b : List Int} (h : b.length = 16) (n : Nat) : (bkI a b n).1.length = 16 ∧ (bkI a b n).2.length = 16 :=
  itr_inv (fun _ (s : List Int × List Int) => s.1.length = 16 ∧ s.2.length = 16) ⟨rfl, h⟩ (fun n s hs => ⟨by unfold bkS; simp only; split <;> simp [jn_len, hs.1], shF_len hs.2⟩) n
def preBk (ds : List D) : Prop := ∃ a b : List Int, ds = [.v (.ints .u8 a), .v (.ints .u8 b)] ∧ a.length = 16 ∧ b.length = 16
def F37 : List D → Out
  | [.v (.ints _ a), .v (.ints _ b)] => .one (.v (.ints .u8 (bkF a b)))
  | _ => bad
def s37 : Summ := sData [.v, .v] preBk F37
set_option maxHeartbeats 4000000 in
theorem ok37 {g : List Blk} [Ge gl g] : SumOK Try.prog g 37 s37 ∧ SumAbs s37 := by
  refine fsumA (l := []) mixed gl_plain rfl Try.func37 comp37 compR37 nt37 (by simp) fun ds ⟨a, b, hd, hal, hbl⟩ hA => ?_
  subst hd
  have hF : F37 [.v (.ints .u8 a), .v (.ints .u8 b)] = .one (.v (.ints .u8 (bkF a b))) := rfl
  have sa : sub a 0 16 = a := sub_zero hal
  have sb : sub b 0 16 = b := sub_zero hbl
  simp only [ir37, rs37, gl, hF, sa, sb, hal, hbl, sub_zero, qda, qai, List.length_cons, List.length_nil, Nat.reduceAdd, Nat.le_refl, Nat.reduceLeDiff, Nat.reduceLT, true_and, and_true, ↓evA, evB, evs, evp, mkB, repB, blen, ↓retQ, res, resAll, resOne, kill, apartOk, exp, injV, injB, pur, purs, purR, pursR, List.reduceReplicate, Nat.reduceAdd, Nat.reduceMul, Nat.reduceSub, Nat.reduceEqDiff, Nat.reduceLT, Int.reduceToNat, Int.reduceLE, Int.reduceLT, Int.reduceEq, reduceCtorEq, ↓reduceIte]
  refine awp_loopA (n := 63) hA [2, 3, 4, 5, 6] (by decide +kernel) (fun i : Nat => [.ptr 4 0, .ptr 5 0, .ptr 6 0, .ptr 7 0, .int .i64 i])
    (fun i => [.dead, .dead, .dead, .dead, .ints false .u8 a, .ints false .u8 (bkI a b i).2, .ints false .u8 [0, 0, 0, 0, 0, 0, 0, 0, 0, 0, 0, 0, 0, 0, 0, 0], .ints false .u8 (bkI a b i).1]) (fun i => i ≤ 128) (fun i => 128 - i) 0 ?_ (by omega) ?_
  · refine Hd.same ?_
    simp only [bkI, itr, z16, List.map_cons, List.map_nil, Nat.reduceLT, nth_asl, look_cons, look_nil, reduceCtorEq, ↓reduceIte, Nat.reduceEqDiff, Int.cast_ofNat_Int, List.append_nil, List.cons_append, List.nil_append, asl_length, and_true, true_and, Nat.zero_add, Nat.add_zero, Nat.reduceAdd, qcy, qcz, List.reduceReplicate]
  intro i hi K hK
  obtain ⟨l1, l2⟩ := bkI_len (a := a) hbl i
  by_cases hlt : i < 128
  · have c1 : (i : Int) < 128 := by omega
    have wi : Go.IntKind.i64.wrap ((i : Int) + 1) = ((i + 1 : Nat) : Int) := by rw [wrap_i64]; omega
    have n8 : ¬ (8 : Int) = 0 := by decide
    have wd : Go.IntKind.i64.wrap ((i : Int).tdiv 8) = ((i / 8 : Nat) : Int) := by
      rw [Int.tdiv_eq_ediv_of_nonneg (by omega), wrap_i64]; omega
    have wm : (i : Int).tmod 8 = ((i % 8 : Nat) : Int) := tmod_nat (k := 8)
    have ws : Go.IntKind.i64.wrap (7 - ((i % 8 : Nat) : Int)) = ((7 - i % 8 : Nat) : Int) := by rw [wrap_i64]; omega
    have b16 : i / 8 < 16 := by omega
    have hx : bkI a b (i + 1) = bkS a (bkI a b i) i := rfl
    obtain ⟨s, hs⟩ : ∃ s, bkI a b i = s := ⟨_, rfl⟩
    rw [hs] at hx l1 l2 ⊢
    have hb1 : bAnd .u8 (iShr .u8 (getI a (i / 8)) ((7 - i % 8 : Nat) : Int)) 1 = bkB a i := rfl
    have hl := shI_len l2
    have hz : shI s.2 0 = (s.2, 0) := rfl
    have hst : ∀ k, shI s.2 (k + 1) = shS (shI s.2 k) k := fun k => rfl
    by_cases hbit : bkB a i = 1
    · rw [bkS, if_pos hbit] at hx
      simp only [c1, n8, wd, wm, ws, b16, hal, hb1, hbit, sub_zero, qda, qai, List.length_cons, List.length_nil, Nat.reduceAdd, Nat.le_refl, Nat.reduceLeDiff, Nat.reduceLT, true_and, and_true, ↓evA, evB, evs, evp, mkB, repB, blen, ↓retQ, res, resAll, resOne, kill, apartOk, exp, injV, injB, pur, purs, purR, pursR, List.reduceReplicate, Nat.reduceAdd, Nat.reduceMul, Nat.reduceSub, Nat.reduceEqDiff, Nat.reduceLT, Int.reduceToNat, Int.reduceLE, Int.reduceLT, Int.reduceEq, reduceCtorEq, ↓reduceIte]
      repeat (refine And.intro (by omega) ?_)
      refine awp_loopA (n := 63) hA [2, 3, 4, 5, 6, 7] (by decide +kernel) (fun k : Nat => [.ptr 4 0, .ptr 5 0, .ptr 6 0, .ptr 7 0, .int .i64 i, .int .i64 k])
        (fun k => [.dead, .dead, .dead, .dead, .ints false .u8 a, .ints false .u8 s.2, .ints false .u8 [0, 0, 0, 0, 0, 0, 0, 0, 0, 0, 0, 0, 0, 0, 0, 0], .ints false .u8 (jn s.1 s.2 k)]) (fun k => k ≤ 16) (fun k => 16 - k) 0 ?_ (by omega) ?_
      · refine Hd.same ?_
        simp only [jn, List.map_cons, List.map_nil, Nat.reduceLT, nth_asl, look_cons, look_nil, reduceCtorEq, ↓reduceIte, Nat.reduceEqDiff, Int.cast_ofNat_Int, List.append_nil, List.cons_append, List.nil_append, asl_length, and_true, true_and, Nat.zero_add, Nat.add_zero, Nat.reduceAdd, qcy, qcz, List.reduceReplicate]
      intro k hk K2 hK2
      have hjl : (jn s.1 s.2 k).length = 16 := by rw [jn_len, l1]
      by_cases hlk : k < 16
      · have c2 : (k : Int) < 16 := by omega
        have wk : Go.IntKind.i64.wrap ((k : Int) + 1) = ((k + 1 : Nat) : Int) := by rw [wrap_i64]; omega
        have hy : jn s.1 s.2 (k + 1) = (jn s.1 s.2 k).set k (bXor .u8 (getI (jn s.1 s.2 k) k) (getI s.2 k)) := rfl
        obtain ⟨y, hye⟩ : ∃ y, jn s.1 s.2 k = y := ⟨_, rfl⟩
        rw [hye] at hy hjl ⊢
        simp only [c2, wk, hjl, l2, hlk, sub_zero, qda, qai, List.length_cons, List.length_nil, Nat.reduceAdd, Nat.le_refl, Nat.reduceLeDiff, Nat.reduceLT, true_and, and_true, ↓evA, evB, evs, evp, mkB, repB, blen, ↓retQ, res, resAll, resOne, kill, apartOk, exp, injV, injB, pur, purs, purR, pursR, List.reduceReplicate, Nat.reduceAdd, Nat.reduceMul, Nat.reduceSub, Nat.reduceEqDiff, Nat.reduceLT, Int.reduceToNat, Int.reduceLE, Int.reduceLT, Int.reduceEq, reduceCtorEq, ↓reduceIte]
        repeat (refine And.intro (by omega) ?_)
        refine ⟨k + 1, hK2 _ (by omega) (by omega), Hd.same ?_⟩
        simp only [hy, List.map_cons, List.map_nil, Nat.reduceLT, nth_asl, look_cons, look_nil, reduceCtorEq, ↓reduceIte, Nat.reduceEqDiff, Int.cast_ofNat_Int, List.append_nil, List.cons_append, List.nil_append, asl_length, and_true, true_and, Nat.zero_add, Nat.add_zero, Nat.reduceAdd, qcy, qcz, List.reduceReplicate]
      obtain rfl : k = 16 := by omega
      have c2 : ¬ ((16 : Nat) : Int) < 16 := by omega
      obtain ⟨p, hp⟩ : ∃ p, jn s.1 s.2 16 = p := ⟨_, rfl⟩
      rw [hp] at hx ⊢
      simp only [c2, sub_zero, qda, qai, List.length_cons, List.length_nil, Nat.reduceAdd, Nat.le_refl, Nat.reduceLeDiff, Nat.reduceLT, true_and, and_true, ↓evA, evB, evs, evp, mkB, repB, blen, ↓retQ, res, resAll, resOne, kill, apartOk, exp, injV, injB, pur, purs, purR, pursR, List.reduceReplicate, Nat.reduceAdd, Nat.reduceMul, Nat.reduceSub, Nat.reduceEqDiff, Nat.reduceLT, Int.reduceToNat, Int.reduceLE, Int.reduceLT, Int.reduceEq, reduceCtorEq, ↓reduceIte]
      refine awp_loopA (n := 63) hA [2, 3, 4, 5, 6, 8, 9] (by decide +kernel) (fun k : Nat => [.ptr 4 0, .ptr 5 0, .ptr 6 0, .ptr 7 0, .int .i64 i, .int .u8 (shI s.2 k).2, .int .i64 k])
        (fun k => [.dead, .dead, .dead, .dead, .ints false .u8 a, .ints false .u8 (shI s.2 k).1, .ints false .u8 [0, 0, 0, 0, 0, 0, 0, 0, 0, 0, 0, 0, 0, 0, 0, 0], .ints false .u8 p]) (fun k => k ≤ 16) (fun k => 16 - k) 0 ?_ (by omega) ?_
      · refine Hd.same ?_
        simp only [hz, List.map_cons, List.map_nil, Nat.reduceLT, nth_asl, look_cons, look_nil, reduceCtorEq, ↓reduceIte, Nat.reduceEqDiff, Int.cast_ofNat_Int, List.append_nil, List.cons_append, List.nil_append, asl_length, and_true, true_and, Nat.zero_add, Nat.add_zero, Nat.reduceAdd, qcy, qcz, List.reduceReplicate]
      intro k hk K3 hK3
      have hlk := hl k
      by_cases hk16 : k < 16
      · have c3 : (k : Int) < 16 := by omega
        have wk : Go.IntKind.i64.wrap ((k : Int) + 1) = ((k + 1 : Nat) : Int) := by rw [wrap_i64]; omega
        have hy := hst k
        obtain ⟨r, hr⟩ : ∃ r, shI s.2 k = r := ⟨_, rfl⟩
        rw [hr] at hy hlk ⊢
        simp only [c3, wk, hlk, hk16, sub_zero, qda, qai, List.length_cons, List.length_nil, Nat.reduceAdd, Nat.le_refl, Nat.reduceLeDiff, Nat.reduceLT, true_and, and_true, ↓evA, evB, evs, evp, mkB, repB, blen, ↓retQ, res, resAll, resOne, kill, apartOk, exp, injV, injB, pur, purs, purR, pursR, List.reduceReplicate, Nat.reduceAdd, Nat.reduceMul, Nat.reduceSub, Nat.reduceEqDiff, Nat.reduceLT, Int.reduceToNat, Int.reduceLE, Int.reduceLT, Int.reduceEq, reduceCtorEq, ↓reduceIte]
        repeat (refine And.intro (by omega) ?_)
        refine ⟨k + 1, hK3 _ (by omega) (by omega), Hd.same ?_⟩
        simp only [hy, shS, List.map_cons, List.map_nil, Nat.reduceLT, nth_asl, look_cons, look_nil, reduceCtorEq, ↓reduceIte, Nat.reduceEqDiff, Int.cast_ofNat_Int, List.append_nil, List.cons_append, List.nil_append, asl_length, and_true, true_and, Nat.zero_add, Nat.add_zero, Nat.reduceAdd, qcy, qcz, List.reduceReplicate]
      obtain rfl : k = 16 := by omega
      have c3 : ¬ ((16 : Nat) : Int) < 16 := by omega
      unfold shF at hx
      obtain ⟨r, hr⟩ : ∃ r, shI s.2 16 = r := ⟨_, rfl⟩
      rw [hr] at hx hlk ⊢
      by_cases hc : r.2 = 1
      · rw [if_pos hc] at hx
        simp only [c3, wi, hc, hlk, sub_zero, qda, qai, List.length_cons, List.length_nil, Nat.reduceAdd, Nat.le_refl, Nat.reduceLeDiff, Nat.reduceLT, true_and, and_true, ↓evA, evB, evs, evp, mkB, repB, blen, ↓retQ, res, resAll, resOne, kill, apartOk, exp, injV, injB, pur, purs, purR, pursR, List.reduceReplicate, Nat.reduceAdd, Nat.reduceMul, Nat.reduceSub, Nat.reduceEqDiff, Nat.reduceLT, Int.reduceToNat, Int.reduceLE, Int.reduceLT, Int.reduceEq, reduceCtorEq, ↓reduceIte]
        repeat (refine And.intro (by omega) ?_)
        refine ⟨i + 1, hK _ (by omega) (by omega), Hd.same ?_⟩
        simp only [hx, List.map_cons, List.map_nil, Nat.reduceLT, nth_asl, look_cons, look_nil, reduceCtorEq, ↓reduceIte, Nat.reduceEqDiff, Int.cast_ofNat_Int, List.append_nil, List.cons_append, List.nil_append, asl_length, and_true, true_and, Nat.zero_add, Nat.add_zero, Nat.reduceAdd, qcy, qcz, List.reduceReplicate]
      · rw [if_neg hc] at hx
        simp only [c3, wi, hc, sub_zero, qda, qai, List.length_cons, List.length_nil, Nat.reduceAdd, Nat.le_refl, Nat.reduceLeDiff, Nat.reduceLT, true_and, and_true, ↓evA, evB, evs, evp, mkB, repB, blen, ↓retQ, res, resAll, resOne, kill, apartOk, exp, injV, injB, pur, purs, purR, pursR, List.reduceReplicate, Nat.reduceAdd, Nat.reduceMul, Nat.reduceSub, Nat.reduceEqDiff, Nat.reduceLT, Int.reduceToNat, Int.reduceLE, Int.reduceLT, Int.reduceEq, reduceCtorEq, ↓reduceIte]
        repeat (refine And.intro (by omega) ?_)
        refine ⟨i + 1, hK _ (by omega) (by omega), Hd.same ?_⟩
        simp only [hx, List.map_cons, List.map_nil, Nat.reduceLT, nth_asl, look_cons, look_nil, reduceCtorEq, ↓reduceIte, Nat.reduceEqDiff, Int.cast_ofNat_Int, List.append_nil, List.cons_append, List.nil_append, asl_length, and_true, true_and, Nat.zero_add, Nat.add_zero, Nat.reduceAdd, qcy, qcz, List.reduceReplicate]
    · rw [bkS, if_neg hbit] at hx
      obtain ⟨p, hp⟩ : ∃ p, s.1 = p := ⟨_, rfl⟩
      rw [hp] at hx ⊢
      simp only [c1, n8, wd, wm, ws, b16, hal, hb1, hbit, sub_zero, qda, qai, List.length_cons, List.length_nil, Nat.reduceAdd, Nat.le_refl, Nat.reduceLeDiff, Nat.reduceLT, true_and, and_true, ↓evA, evB, evs, evp, mkB, repB, blen, ↓retQ, res, resAll, resOne, kill, apartOk, exp, injV, injB, pur, purs, purR, pursR, List.reduceReplicate, Nat.reduceAdd, Nat.reduceMul, Nat.reduceSub, Nat.reduceEqDiff, Nat.reduceLT, Int.reduceToNat, Int.reduceLE, Int.reduceLT, Int.reduceEq, reduceCtorEq, ↓reduceIte]
      repeat (refine And.intro (by omega) ?_)
      refine awp_loopA (n := 63) hA [2, 3, 4, 5, 6, 8, 9] (by decide +kernel) (fun k : Nat => [.ptr 4 0, .ptr 5 0, .ptr 6 0, .ptr 7 0, .int .i64 i, .int .u8 (shI s.2 k).2, .int .i64 k])
        (fun k => [.dead, .dead, .dead, .dead, .ints false .u8 a, .ints false .u8 (shI s.2 k).1, .ints false .u8 [0, 0, 0, 0, 0, 0, 0, 0, 0, 0, 0, 0, 0, 0, 0, 0], .ints false .u8 p]) (fun k => k ≤ 16) (fun k => 16 - k) 0 ?_ (by omega) ?_
      · refine Hd.same ?_
        simp only [hz, List.map_cons, List.map_nil, Nat.reduceLT, nth_asl, look_cons, look_nil, reduceCtorEq, ↓reduceIte, Nat.reduceEqDiff, Int.cast_ofNat_Int, List.append_nil, List.cons_append, List.nil_append, asl_length, and_true, true_and, Nat.zero_add, Nat.add_zero, Nat.reduceAdd, qcy, qcz, List.reduceReplicate]
      intro k hk K3 hK3
      have hlk := hl k
      by_cases hk16 : k < 16
      · have c3 : (k : Int) < 16 := by omega
        have wk : Go.IntKind.i64.wrap ((k : Int) + 1) = ((k + 1 : Nat) : Int) := by rw [wrap_i64]; omega
        have hy := hst k
        obtain ⟨r, hr⟩ : ∃ r, shI s.2 k = r := ⟨_, rfl⟩
        rw [hr] at hy hlk ⊢
        simp only [c3, wk, hlk, hk16, sub_zero, qda, qai, List.length_cons, List.length_nil, Nat.reduceAdd, Nat.le_refl, Nat.reduceLeDiff, Nat.reduceLT, true_and, and_true, ↓evA, evB, evs, evp, mkB, repB, blen, ↓retQ, res, resAll, resOne, kill, apartOk, exp, injV, injB, pur, purs, purR, pursR, List.reduceReplicate, Nat.reduceAdd, Nat.reduceMul, Nat.reduceSub, Nat.reduceEqDiff, Nat.reduceLT, Int.reduceToNat, Int.reduceLE, Int.reduceLT, Int.reduceEq, reduceCtorEq, ↓reduceIte]
        repeat (refine And.intro (by omega) ?_)
        refine ⟨k + 1, hK3 _ (by omega) (by omega), Hd.same ?_⟩
        simp only [hy, shS, List.map_cons, List.map_nil, Nat.reduceLT, nth_asl, look_cons, look_nil, reduceCtorEq, ↓reduceIte, Nat.reduceEqDiff, Int.cast_ofNat_Int, List.append_nil, List.cons_append, List.nil_append, asl_length, and_true, true_and, Nat.zero_add, Nat.add_zero, Nat.reduceAdd, qcy, qcz, List.reduceReplicate]
      obtain rfl : k = 16 := by omega
      have c3 : ¬ ((16 : Nat) : Int) < 16 := by omega
      unfold shF at hx
      obtain ⟨r, hr⟩ : ∃ r, shI s.2 16 = r := ⟨_, rfl⟩
      rw [hr] at hx hlk ⊢
      by_cases hc : r.2 = 1
      · rw [if_pos hc] at hx
        simp only [c3, wi, hc, hlk, sub_zero, qda, qai, List.length_cons, List.length_nil, Nat.reduceAdd, Nat.le_refl, Nat.reduceLeDiff, Nat.reduceLT, true_and, and_true, ↓evA, evB, evs, evp, mkB, repB, blen, ↓retQ, res, resAll, resOne, kill, apartOk, exp, injV, injB, pur, purs, purR, pursR, List.reduceReplicate, Nat.reduceAdd, Nat.reduceMul, Nat.reduceSub, Nat.reduceEqDiff, Nat.reduceLT, Int.reduceToNat, Int.reduceLE, Int.reduceLT, Int.reduceEq, reduceCtorEq, ↓reduceIte]
        repeat (refine And.intro (by omega) ?_)
        refine ⟨i + 1, hK _ (by omega) (by omega), Hd.same ?_⟩
        simp only [hx, List.map_cons, List.map_nil, Nat.reduceLT, nth_asl, look_cons, look_nil, reduceCtorEq, ↓reduceIte, Nat.reduceEqDiff, Int.cast_ofNat_Int, List.append_nil, List.cons_append, List.nil_append, asl_length, and_true, true_and, Nat.zero_add, Nat.add_zero, Nat.reduceAdd, qcy, qcz, List.reduceReplicate]
      · rw [if_neg hc] at hx
        simp only [c3, wi, hc, sub_zero, qda, qai, List.length_cons, List.length_nil, Nat.reduceAdd, Nat.le_refl, Nat.reduceLeDiff, Nat.reduceLT, true_and, and_true, ↓evA, evB, evs, evp, mkB, repB, blen, ↓retQ, res, resAll, resOne, kill, apartOk, exp, injV, injB, pur, purs, purR, pursR, List.reduceReplicate, Nat.reduceAdd, Nat.reduceMul, Nat.reduceSub, Nat.reduceEqDiff, Nat.reduceLT, Int.reduceToNat, Int.reduceLE, Int.reduceLT, Int.reduceEq, reduceCtorEq, ↓reduceIte]
        repeat (refine And.intro (by omega) ?_)
        refine ⟨i + 1, hK _ (by omega) (by omega), Hd.same ?_⟩
        simp only [hx, List.map_cons, List.map_nil, Nat.reduceLT, nth_asl, look_cons, look_nil, reduceCtorEq, ↓reduceIte, Nat.reduceEqDiff, Int.cast_ofNat_Int, List.append_nil, List.cons_append, List.nil_append, asl_length, and_true, true_and, Nat.zero_add, Nat.add_zero, Nat.reduceAdd, qcy, qcz, List.reduceReplicate]
  obtain rfl : i = 128 := by omega
  have c1 : ¬((128 : Nat) : Int) < 128 := by omega
  have hR : (bkI a b 128).1 = bkF a b := rfl
  rw [hR] at l1 ⊢
  obtain ⟨R, hRR⟩ : ∃ R, bkF a b = R := ⟨_, rfl⟩
  rw [hRR] at l1 ⊢
  have sR : sub R 0 16 = R := sub_zero l1
  have pR : spl [0, 0, 0, 0, 0, 0, 0, 0, 0, 0, 0, 0, 0, 0, 0, 0] 0 R = R := qda (by simp [l1])
  simp only [c1, l1, sR, pR, sub_zero, qda, qai, List.length_cons, List.length_nil, Nat.reduceAdd, Nat.le_refl, Nat.reduceLeDiff, Nat.reduceLT, true_and, and_true, ↓evA, evB, evs, evp, mkB, repB, blen, ↓retQ, res, resAll, resOne, kill, apartOk, exp, injV, injB, pur, purs, purR, pursR, List.reduceReplicate, Nat.reduceAdd, Nat.reduceMul, Nat.reduceSub, Nat.reduceEqDiff, Nat.reduceLT, Int.reduceToNat, Int.reduceLE, Int.reduceLT, Int.reduceEq, reduceCtorEq, ↓reduceIte]
  repeat (refine And.intro (by omega) ?_)
  simp only [out, outs, out1, pur, and_self]
/-! ### The reference's hash -/
def xkS (b : List Int) (m : Nat) (s : List Int) (j : Nat) : List Int := s.set j (bXor .u8 (getI s j) (getI b (16 * m + j)))
def hrS (h b : List Int) (y : List Int) (m : Nat) : List Int := bkF (itr (xkS b m) y (min (16 * (m + 1)) b.length - 16 * m)) h
def hrF (y h b : List Int) : List Int := itr (hrS h b) y (nbl b)
theorem xkS_len {b y : List Int} {m : Nat} (h : y.length = 16) (n : Nat) : (itr (xkS b m) y n).length = 16 :=
  itr_inv (fun _ (s : List Int) => s.length = 16) h (fun n s hs => by simp [xkS, hs]) n
theorem bkF_len {a b : List Int} (h : b.length = 16) : (bkF a b).length = 16 := (bkI_len h 128).1
theorem hrS_len {h b y : List Int} (hh : h.length = 16) (hy : y.length = 16) (n : Nat) : (itr (hrS h b) y n).length = 16 :=
  itr_inv (fun _ (s : List Int) => s.length = 16) hy (fun n s hs => bkF_len hh) n
def preHr (ds : List D) : Prop := ∃ y h b : List Int, ds = [.v (.ints .u8 y), .v (.ints .u8 h), .s .u8 b] ∧ y.length = 16 ∧ h.length = 16 ∧ b.length ≤ 549755813888
def F32 : List D → Out
  | [.v (.ints _ y), .v (.ints _ h), .s _ b] => .one (.v (.ints .u8 (hrF y h b)))
  | _ => bad
def s32 : Summ := sData [.v, .v, .s .u8] preHr F32
set_option maxHeartbeats 4000000 in
theorem ok32 {g : List Blk} [Ge gl g] : SumOK Try.prog g 32 s32 ∧ SumAbs s32 := by
  refine fsumA (l := [(37, s37)]) mixed gl_plain rfl Try.func32 comp32 compR32 nt32 (by simp only [List.mem_cons, List.not_mem_nil, or_false, forall_eq]; exact ok37) fun ds ⟨y0, h, b, hd, hyl, hhl, hbl⟩ hA => ?_
  subst hd
  have hF : F32 [.v (.ints .u8 y0), .v (.ints .u8 h), .s .u8 b] = .one (.v (.ints .u8 (hrF y0 h b))) := rfl
  have sy : sub y0 0 16 = y0 := sub_zero hyl
  have sh : sub h 0 16 = h := sub_zero hhl
  have sb := qdc b
  simp only [s37]
  simp only [ir32, rs32, gl, hF, sy, sh, sb, hyl, hhl, sub_zero, qda, qai, List.length_cons, List.length_nil, Nat.reduceAdd, Nat.le_refl, Nat.reduceLeDiff, Nat.reduceLT, true_and, and_true, ↓evA, evB, evs, evp, mkB, repB, blen, ↓retQ, res, resAll, resOne, kill, apartOk, exp, injV, injB, pur, purs, purR, pursR, List.reduceReplicate, Nat.reduceAdd, Nat.reduceMul, Nat.reduceSub, Nat.reduceEqDiff, Nat.reduceLT, Int.reduceToNat, Int.reduceLE, Int.reduceLT, Int.reduceEq, reduceCtorEq, ↓reduceIte]
  refine awp_loopA (n := 46) hA [2, 3, 4, 6, 7] (by decide +kernel) (fun m : Nat => [.slice 4 0 1 b.length b.length, .ptr 5 0, .ptr 6 0, .ptr 7 0, .int .i64 ((16 * m : Nat) : Int)])
    (fun m => [.dead, .dead, .dead, .dead, .ints true .u8 b, .ints false .u8 (itr (hrS h b) y0 m), .ints false .u8 h, .ints false .u8 [0, 0, 0, 0, 0, 0, 0, 0, 0, 0, 0, 0, 0, 0, 0, 0]]) (fun m => m ≤ nbl b) (fun m => nbl b - m) 0 ?_ (by omega) ?_
  · refine Hd.same ?_
    simp only [itr, show ((16 * 0 : Nat) : Int) = 0 from rfl, List.map_cons, List.map_nil, Nat.reduceLT, nth_asl, look_cons, look_nil, reduceCtorEq, ↓reduceIte, Nat.reduceEqDiff, Int.cast_ofNat_Int, List.append_nil, List.cons_append, List.nil_append, asl_length, and_true, true_and, Nat.zero_add, Nat.add_zero, Nat.reduceAdd, qcy, qcz, List.reduceReplicate]
  intro m hm K hK
  have hil := hrS_len (b := b) hhl hyl m
  simp only [s37]
  unfold nbl at hm hK
  by_cases hlm : 16 * m < b.length
  · have c1 : ((16 * m : Nat) : Int) < (b.length : Int) := by omega
    have w16 : Go.IntKind.i64.wrap (((16 * m : Nat) : Int) + 16) = ((16 * (m + 1) : Nat) : Int) := by rw [wrap_i64]; omega
    have hx : itr (hrS h b) y0 (m + 1) = bkF (itr (xkS b m) (itr (hrS h b) y0 m) (min (16 * (m + 1)) b.length - 16 * m)) h := rfl
    obtain ⟨y, hy⟩ : ∃ y, itr (hrS h b) y0 m = y := ⟨_, rfl⟩
    rw [hy] at hx hil ⊢
    obtain ⟨e, he⟩ : ∃ e, min (16 * (m + 1)) b.length - 16 * m = e := ⟨_, rfl⟩
    rw [he] at hx
    have he16 : e ≤ 16 := by omega
    simp only [c1, sub_zero, qda, qai, List.length_cons, List.length_nil, Nat.reduceAdd, Nat.le_refl, Nat.reduceLeDiff, Nat.reduceLT, true_and, and_true, ↓evA, evB, evs, evp, mkB, repB, blen, ↓retQ, res, resAll, resOne, kill, apartOk, exp, injV, injB, pur, purs, purR, pursR, List.reduceReplicate, Nat.reduceAdd, Nat.reduceMul, Nat.reduceSub, Nat.reduceEqDiff, Nat.reduceLT, Int.reduceToNat, Int.reduceLE, Int.reduceLT, Int.reduceEq, reduceCtorEq, ↓reduceIte]
    refine awp_loopA (n := 46) hA [2, 3, 4, 6, 7, 8] (by decide +kernel) (fun t : Nat => [.slice 4 0 1 b.length b.length, .ptr 5 0, .ptr 6 0, .ptr 7 0, .int .i64 ((16 * m : Nat) : Int), .int .i64 ((16 * m + t : Nat) : Int)])
      (fun t => [.dead, .dead, .dead, .dead, .ints true .u8 b, .ints false .u8 (itr (xkS b m) y t), .ints false .u8 h, .ints false .u8 [0, 0, 0, 0, 0, 0, 0, 0, 0, 0, 0, 0, 0, 0, 0, 0]]) (fun t => t ≤ e) (fun t => e - t) 0 ?_ (by omega) ?_
    · refine Hd.same ?_
      simp only [itr, Nat.add_zero, List.map_cons, List.map_nil, Nat.reduceLT, nth_asl, look_cons, look_nil, reduceCtorEq, ↓reduceIte, Nat.reduceEqDiff, Int.cast_ofNat_Int, List.append_nil, List.cons_append, List.nil_append, asl_length, and_true, true_and, Nat.zero_add, Nat.add_zero, Nat.reduceAdd, qcy, qcz, List.reduceReplicate]
    intro t ht K2 hK2
    have hxl := xkS_len (b := b) (m := m) hil t
    simp only [s37]
    by_cases hlt : t < e
    · have d1 : ((16 * m + t : Nat) : Int) < ((16 * (m + 1) : Nat) : Int) := by omega
      have d2 : ((16 * m + t : Nat) : Int) < (b.length : Int) := by omega
      have wt : Go.IntKind.i64.wrap (((16 * m + t : Nat) : Int) + 1) = ((16 * m + (t + 1) : Nat) : Int) := by rw [wrap_i64]; omega
      have wd : Go.IntKind.i64.wrap (((16 * m + t : Nat) : Int) - ((16 * m : Nat) : Int)) = (t : Int) := by rw [wrap_i64]; omega
      have hst : itr (xkS b m) y (t + 1) = xkS b m (itr (xkS b m) y t) t := rfl
      obtain ⟨z, hz⟩ : ∃ z, itr (xkS b m) y t = z := ⟨_, rfl⟩
      rw [hz] at hst hxl ⊢
      have b1 : t < 16 := by omega
      have b2 : 16 * m + t < b.length := by omega
      simp only [d1, d2, w16, wt, wd, hxl, b1, b2, sub_zero, qda, qai, List.length_cons, List.length_nil, Nat.reduceAdd, Nat.le_refl, Nat.reduceLeDiff, Nat.reduceLT, true_and, and_true, ↓evA, evB, evs, evp, mkB, repB, blen, ↓retQ, res, resAll, resOne, kill, apartOk, exp, injV, injB, pur, purs, purR, pursR, List.reduceReplicate, Nat.reduceAdd, Nat.reduceMul, Nat.reduceSub, Nat.reduceEqDiff, Nat.reduceLT, Int.reduceToNat, Int.reduceLE, Int.reduceLT, Int.reduceEq, reduceCtorEq, ↓reduceIte]
      repeat (refine And.intro (by omega) ?_)
      refine ⟨t + 1, hK2 _ (by omega) (by omega), Hd.same ?_⟩
      simp only [hst, xkS, List.map_cons, List.map_nil, Nat.reduceLT, nth_asl, look_cons, look_nil, reduceCtorEq, ↓reduceIte, Nat.reduceEqDiff, Int.cast_ofNat_Int, List.append_nil, List.cons_append, List.nil_append, asl_length, and_true, true_and, Nat.zero_add, Nat.add_zero, Nat.reduceAdd, qcy, qcz, List.reduceReplicate]
    obtain rfl : t = e := by omega
    obtain ⟨z, hz⟩ : ∃ z, itr (xkS b m) y t = z := ⟨_, rfl⟩
    rw [hz] at hx hxl ⊢
    have q : preBk [.v (.ints .u8 z), .v (.ints .u8 h)] := ⟨_, _, rfl, hxl, hhl⟩
    have f : F37 [.v (.ints .u8 z), .v (.ints .u8 h)] = .one (.v (.ints .u8 (bkF z h))) := rfl
    have hRl := bkF_len (a := z) hhl
    obtain ⟨R, hR⟩ : ∃ R, bkF z h = R := ⟨_, rfl⟩
    rw [hR] at hx f hRl
    have sz : sub z 0 16 = z := sub_zero hxl
    have pz : spl z 0 R = R := qda (by omega)
    by_cases h16 : t = 16
    · have d1 : ¬ ((16 * m + t : Nat) : Int) < ((16 * (m + 1) : Nat) : Int) := by omega
      simp only [d1, w16, q, f, sh, sz, pz, hxl, hhl, hRl, sub_zero, qda, qai, List.length_cons, List.length_nil, Nat.reduceAdd, Nat.le_refl, Nat.reduceLeDiff, Nat.reduceLT, true_and, and_true, ↓evA, evB, evs, evp, mkB, repB, blen, ↓retQ, res, resAll, resOne, kill, apartOk, exp, injV, injB, pur, purs, purR, pursR, List.reduceReplicate, Nat.reduceAdd, Nat.reduceMul, Nat.reduceSub, Nat.reduceEqDiff, Nat.reduceLT, Int.reduceToNat, Int.reduceLE, Int.reduceLT, Int.reduceEq, reduceCtorEq, ↓reduceIte]
      repeat (refine And.intro (by omega) ?_)
      refine ⟨m + 1, hK _ (by omega) (by omega), Hd.same ?_⟩
      simp only [hx, List.map_cons, List.map_nil, Nat.reduceLT, nth_asl, look_cons, look_nil, reduceCtorEq, ↓reduceIte, Nat.reduceEqDiff, Int.cast_ofNat_Int, List.append_nil, List.cons_append, List.nil_append, asl_length, and_true, true_and, Nat.zero_add, Nat.add_zero, Nat.reduceAdd, qcy, qcz, List.reduceReplicate]
    · have d1 : ((16 * m + t : Nat) : Int) < ((16 * (m + 1) : Nat) : Int) := by omega
      have d2 : ¬ ((16 * m + t : Nat) : Int) < (b.length : Int) := by omega
      simp only [d1, d2, w16, q, f, sh, sz, pz, hxl, hhl, hRl, sub_zero, qda, qai, List.length_cons, List.length_nil, Nat.reduceAdd, Nat.le_refl, Nat.reduceLeDiff, Nat.reduceLT, true_and, and_true, ↓evA, evB, evs, evp, mkB, repB, blen, ↓retQ, res, resAll, resOne, kill, apartOk, exp, injV, injB, pur, purs, purR, pursR, List.reduceReplicate, Nat.reduceAdd, Nat.reduceMul, Nat.reduceSub, Nat.reduceEqDiff, Nat.reduceLT, Int.reduceToNat, Int.reduceLE, Int.reduceLT, Int.reduceEq, reduceCtorEq, ↓reduceIte]
      repeat (refine And.intro (by omega) ?_)
      refine ⟨m + 1, hK _ (by omega) (by omega), Hd.same ?_⟩
      simp only [hx, List.map_cons, List.map_nil, Nat.reduceLT, nth_asl, look_cons, look_nil, reduceCtorEq, ↓reduceIte, Nat.reduceEqDiff, Int.cast_ofNat_Int, List.append_nil, List.cons_append, List.nil_append, asl_length, and_true, true_and, Nat.zero_add, Nat.add_zero, Nat.reduceAdd, qcy, qcz, List.reduceReplicate]
  have c1 : ¬ ((16 * m : Nat) : Int) < (b.length : Int) := by omega
  have hmn : m = nbl b := by unfold nbl; omega
  have hR : itr (hrS h b) y0 m = hrF y0 h b := by rw [hmn]; rfl
  rw [hR] at hil ⊢
  obtain ⟨R, hRR⟩ : ∃ R, hrF y0 h b = R := ⟨_, rfl⟩
  rw [hRR] at hil ⊢
  have sR : sub R 0 16 = R := sub_zero hil
  have pR : spl [0, 0, 0, 0, 0, 0, 0, 0, 0, 0, 0, 0, 0, 0, 0, 0] 0 R = R := qda (by simp [hil])
  simp only [c1, hil, sR, pR, sub_zero, qda, qai, List.length_cons, List.length_nil, Nat.reduceAdd, Nat.le_refl, Nat.reduceLeDiff, Nat.reduceLT, true_and, and_true, ↓evA, evB, evs, evp, mkB, repB, blen, ↓retQ, res, resAll, resOne, kill, apartOk, exp, injV, injB, pur, purs, purR, pursR, List.reduceReplicate, Nat.reduceAdd, Nat.reduceMul, Nat.reduceSub, Nat.reduceEqDiff, Nat.reduceLT, Int.reduceToNat, Int.reduceLE, Int.reduceLT, Int.reduceEq, reduceCtorEq, ↓reduceIte]
  repeat (refine And.intro (by omega) ?_)
  simp only [out, outs, out1, pur, and_self]
end Am
