/-
Working texts: contracts of functions, and the numbers behind them.
-/
import Derived.Test.YtcefobjfkmfmiaaDoorShG
set_option linter.unusedSimpArgs false
set_option linter.unusedVariables false
set_option linter.unusedSectionVars false
set_option linter.unusedSimpArgs false
set_option linter.unusedVariables false
set_option maxRecDepth 20000
namespace Am
open Go.Proofs
/-! ### Words of 32 bits, reckoned with in 64 -/
def W32 (x : Int) : Prop := 0 ≤ x ∧ x < 4294967296
theorem wrapN {k : Go.IntKind} {n : Nat} (hs : k.signed = false) (h : n < 2 ^ k.bits) : k.wrap (n : Int) = (n : Int) := by
  simp only [Go.IntKind.wrap, hs, Bool.false_and]
  have : ((n : Int)) < 2 ^ k.bits := by exact_mod_cast h
  simpa using Int.emod_eq_of_lt (by omega) this
theorem bvN (k n : Nat) (h : n < 2 ^ k) : (BitVec.ofInt k (n : Int)).toNat = n := by
  rw [toNat_ofInt _ _ (by omega) (by exact_mod_cast h)]; simp
theorem bAndN {k : Go.IntKind} {a b : Nat} (hs : k.signed = false) (ha : a < 2 ^ k.bits) (hb : b < 2 ^ k.bits) : bAnd k a b = ((a &&& b : Nat) : Int) := by
  rw [bAnd, BitVec.toNat_and, bvN _ _ ha, bvN _ _ hb, wrapN hs (Nat.lt_of_le_of_lt Nat.and_le_left ha)]
theorem bOrN {k : Go.IntKind} {a b : Nat} (hs : k.signed = false) (ha : a < 2 ^ k.bits) (hb : b < 2 ^ k.bits) : bOr k a b = ((a ||| b : Nat) : Int) := by
  rw [bOr, BitVec.toNat_or, bvN _ _ ha, bvN _ _ hb, wrapN hs (Nat.or_lt_two_pow ha hb)]
theorem bXorN {k : Go.IntKind} {a b : Nat} (hs : k.signed = false) (ha : a < 2 ^ k.bits) (hb : b < 2 ^ k.bits) : bXor k a b = ((a ^^^ b : Nat) : Int) := by
  rw [bXor, BitVec.toNat_xor, bvN _ _ ha, bvN _ _ hb, wrapN hs (Nat.xor_lt_two_pow ha hb)]
theorem nat32 {x : Int} (h : W32 x) : ∃ n : Nat, x = n ∧ n < 2 ^ 32 := ⟨x.toNat, by have := h.1; omega, by have := h.2; have := h.1; omega⟩
theorem lt64 {n : Nat} (h : n < 2 ^ 32) : n < 2 ^ 64 := by omega
theorem xor_64 {a b : Int} (ja : W32 a) (jb : W32 b) : bXor .u64 a b = bXor .u32 a b := by
  obtain ⟨a, rfl, ha⟩ := nat32 ja
  obtain ⟨b, rfl, hb⟩ := nat32 jb
  rw [bXorN (k := .u64) rfl (lt64 ha) (lt64 hb), bXorN (k := .u32) rfl ha hb]
theorem xor_32 {a b : Int} (ja : W32 a) (jb : W32 b) : W32 (bXor .u32 a b) := by
  obtain ⟨a, rfl, ha⟩ := nat32 ja
  obtain ⟨b, rfl, hb⟩ := nat32 jb
  rw [bXorN (k := .u32) rfl ha hb]
  have := Nat.xor_lt_two_pow ha hb
  exact ⟨by omega, by omega⟩
theorem tb_lt {n i : Nat} (h : n < 2 ^ 32) (hi : ¬ i < 32) : n.testBit i = false := Nat.testBit_lt_two_pow (Nat.lt_of_lt_of_le h (Nat.pow_le_pow_right (by omega) (by omega)))
theorem ch_nat {e f g : Nat} (he : e < 2 ^ 32) (hf : f < 2 ^ 32) (hg : g < 2 ^ 32) : (e &&& f) ||| ((2 ^ 64 - 1 ^^^ e) &&& g) = (e &&& f) ^^^ ((2 ^ 32 - 1 ^^^ e) &&& g) := by
  apply Nat.eq_of_testBit_eq
  intro i
  simp only [Nat.testBit_or, Nat.testBit_and, Nat.testBit_xor, Nat.testBit_two_pow_sub_one]
  by_cases hi : i < 32
  · have h64 : i < 64 := by omega
    simp only [hi, h64, decide_true]
    cases e.testBit i <;> cases f.testBit i <;> cases g.testBit i <;> rfl
  · rw [tb_lt hg hi, tb_lt he hi]
    simp
theorem maj_nat (a b c : Nat) : (a &&& b) ||| (a &&& c) ||| (b &&& c) = (a &&& b) ^^^ (a &&& c) ^^^ (b &&& c) := by
  apply Nat.eq_of_testBit_eq
  intro i
  simp only [Nat.testBit_or, Nat.testBit_and, Nat.testBit_xor]
  cases a.testBit i <;> cases b.testBit i <;> cases c.testBit i <;> rfl
theorem ch_eq {e f g : Int} (je : W32 e) (jf : W32 f) (jg : W32 g) : bOr .u64 (bAnd .u64 e f) (bAnd .u64 (bXor .u64 (if Go.IntKind.u64.signed then -1 else Go.IntKind.u64.max) e) g) = bXor .u32 (bAnd .u32 e f) (bAnd .u32 (bXor .u32 (if Go.IntKind.u32.signed then -1 else Go.IntKind.u32.max) e) g) ∧ W32 (bXor .u32 (bAnd .u32 e f) (bAnd .u32 (bXor .u32 (if Go.IntKind.u32.signed then -1 else Go.IntKind.u32.max) e) g)) := by
  obtain ⟨e, rfl, he⟩ := nat32 je
  obtain ⟨f, rfl, hf⟩ := nat32 jf
  obtain ⟨g, rfl, hg⟩ := nat32 jg
  have m64 : (if Go.IntKind.u64.signed then -1 else Go.IntKind.u64.max) = ((2 ^ 64 - 1 : Nat) : Int) := by decide
  have m32 : (if Go.IntKind.u32.signed then -1 else Go.IntKind.u32.max) = ((2 ^ 32 - 1 : Nat) : Int) := by decide
  have l1 : e &&& f < 2 ^ 32 := Nat.lt_of_le_of_lt Nat.and_le_left he
  have l2 : (2 ^ 64 - 1 ^^^ e) < 2 ^ 64 := Nat.xor_lt_two_pow (by omega) (lt64 he)
  have l3 : (2 ^ 32 - 1 ^^^ e) < 2 ^ 32 := Nat.xor_lt_two_pow (by omega) he
  have l4 : (2 ^ 64 - 1 ^^^ e) &&& g < 2 ^ 32 := Nat.lt_of_le_of_lt Nat.and_le_right hg
  have l5 : (2 ^ 32 - 1 ^^^ e) &&& g < 2 ^ 32 := Nat.lt_of_le_of_lt Nat.and_le_right hg
  rw [m64, m32, bAndN (k := .u64) rfl (lt64 he) (lt64 hf), bAndN (k := .u32) rfl he hf, bXorN (k := .u64) rfl (by decide) (lt64 he), bXorN (k := .u32) rfl (by decide) he, bAndN (k := .u64) rfl l2 (lt64 hg), bAndN (k := .u32) rfl l3 hg, bOrN (k := .u64) rfl (lt64 l1) (lt64 l4), bXorN (k := .u32) rfl l1 l5, ch_nat he hf hg]
  have := Nat.xor_lt_two_pow l1 l5
  exact ⟨rfl, by omega, by omega⟩
theorem maj_eq {a b c : Int} (ja : W32 a) (jb : W32 b) (jc : W32 c) : bOr .u64 (bOr .u64 (bAnd .u64 a b) (bAnd .u64 a c)) (bAnd .u64 b c) = bXor .u32 (bXor .u32 (bAnd .u32 a b) (bAnd .u32 a c)) (bAnd .u32 b c) ∧ W32 (bXor .u32 (bXor .u32 (bAnd .u32 a b) (bAnd .u32 a c)) (bAnd .u32 b c)) := by
  obtain ⟨a, rfl, ha⟩ := nat32 ja
  obtain ⟨b, rfl, hb⟩ := nat32 jb
  obtain ⟨c, rfl, hc⟩ := nat32 jc
  have l1 : a &&& b < 2 ^ 32 := Nat.lt_of_le_of_lt Nat.and_le_left ha
  have l2 : a &&& c < 2 ^ 32 := Nat.lt_of_le_of_lt Nat.and_le_left ha
  have l3 : b &&& c < 2 ^ 32 := Nat.lt_of_le_of_lt Nat.and_le_left hb
  have l4 := Nat.or_lt_two_pow l1 l2
  have l5 := Nat.xor_lt_two_pow l1 l2
  rw [bAndN (k := .u64) rfl (lt64 ha) (lt64 hb), bAndN (k := .u64) rfl (lt64 ha) (lt64 hc), bAndN (k := .u64) rfl (lt64 hb) (lt64 hc), bAndN (k := .u32) rfl ha hb, bAndN (k := .u32) rfl ha hc, bAndN (k := .u32) rfl hb hc, bOrN (k := .u64) rfl (lt64 l1) (lt64 l2), bOrN (k := .u64) rfl (lt64 l4) (lt64 l3), bXorN (k := .u32) rfl l1 l2, bXorN (k := .u32) rfl l5 l3, maj_nat]
  have := Nat.xor_lt_two_pow l5 l3
  exact ⟨rfl, by omega, by omega⟩
theorem cut_eq {x : Int} (h0 : 0 ≤ x) (h1 : x < 18446744073709551616) : bAnd .u64 x 4294967295 = x % 4294967296 := by
  have := bAnd_mask .u64 32 x h0 (by simpa [Go.IntKind.bits] using h1) (by decide) rfl
  simpa using this
/-- A word turned to the right. -/
def tr (x : Int) (n : Nat) : Int := x / 2 ^ n + x * 2 ^ (32 - n) % 4294967296
theorem tr_split {x : Int} {n : Nat} (hx : W32 x) (h0 : 0 < n) (h1 : n < 32) : ∃ q r : Int, x = q * 2 ^ n + r ∧ 0 ≤ r ∧ r < 2 ^ n ∧ 0 ≤ q ∧ q < 2 ^ (32 - n) ∧ (2 : Int) ^ n * 2 ^ (32 - n) = 4294967296 ∧ x / 2 ^ n = q ∧ x * 2 ^ (32 - n) % 4294967296 = r * 2 ^ (32 - n) := by
  have hp : (2 : Int) ^ n * 2 ^ (32 - n) = 4294967296 := by rw [← Int.pow_add, show n + (32 - n) = 32 by omega]; rfl
  have p1 : (0 : Int) < 2 ^ n := Int.pow_pos (by decide)
  have p2 : (0 : Int) < 2 ^ (32 - n) := Int.pow_pos (by decide)
  have hq : x / 2 ^ n < 2 ^ (32 - n) := by
    rw [Int.ediv_lt_iff_lt_mul p1, Int.mul_comm, hp]; exact hx.2
  refine ⟨x / 2 ^ n, x % 2 ^ n, ?_, Int.emod_nonneg _ (by omega), Int.emod_lt_of_pos _ p1, Int.ediv_nonneg hx.1 (by omega), hq, hp, rfl, ?_⟩
  · rw [Int.mul_comm]; exact (Int.mul_ediv_add_emod x (2 ^ n)).symm
  · rw [← hp, Int.mul_comm x, Int.mul_comm (2 ^ n), Int.mul_emod_mul_of_pos _ _ p2, Int.mul_comm]
theorem tr_32 {x : Int} {n : Nat} (hx : W32 x) (h0 : 0 < n) (h1 : n < 32) : W32 (tr x n) := by
  obtain ⟨q, r, h2, h3, h4, h5, h6, hp, hq, hr⟩ := tr_split hx h0 h1
  rw [tr, hq, hr]
  have p2 : (0 : Int) < 2 ^ (32 - n) := Int.pow_pos (by decide)
  have h7 : r * 2 ^ (32 - n) + 2 ^ (32 - n) ≤ 4294967296 := by
    have := Int.mul_le_mul_of_nonneg_right (show r + 1 ≤ 2 ^ n by omega) (Int.le_of_lt p2)
    rw [hp, Int.add_mul, Int.one_mul] at this
    exact this
  have h8 : 0 ≤ r * 2 ^ (32 - n) := Int.mul_nonneg h3 (by omega)
  exact ⟨by omega, by omega⟩
theorem r32_eq {x : Int} {n : Nat} (hx : W32 x) (h0 : 0 < n) (h1 : n < 32) : r32 x (-(n : Int)) = tr x n := by
  obtain ⟨q, r, h2, h3, h4, h5, h6, hp, hq, hr⟩ := tr_split hx h0 h1
  have p2 : (0 : Int) < 2 ^ (32 - n) := Int.pow_pos (by decide)
  have e1 : bAnd .u64 (Go.IntKind.u64.wrap (-(n : Int))) 31 = ((32 - n : Nat) : Int) := by
    have := bAnd_mask .u64 5 (Go.IntKind.u64.wrap (-(n : Int))) (by rw [wrap_u64]; omega) (by rw [wrap_u64]; simp only [Go.IntKind.bits]; omega) (by decide) rfl
    rw [show (2 : Int) ^ 5 - 1 = 31 by decide] at this
    rw [this, wrap_u64, show (2 : Int) ^ 5 = 32 by decide]
    omega
  have e2 : Go.IntKind.u64.wrap (32 - ((32 - n : Nat) : Int)) = (n : Int) := by rw [wrap_u64]; omega
  have e3 : iShl .u32 x ((32 - n : Nat) : Int) = r * 2 ^ (32 - n) := by
    rw [iShl, Int.toNat_natCast, Nat.min_eq_left (by simp only [Go.IntKind.bits]; omega), wrap_u32, hr]
  have e4 : iShr .u32 x (n : Int) = q := by
    rw [iShr_eq, Int.toNat_natCast, Nat.min_eq_left (by simp only [Go.IntKind.bits]; omega), hq]
  show bOr .u32 (iShl .u32 x (bAnd .u64 (Go.IntKind.u64.wrap (-(n : Int))) 31)) (iShr .u32 x (Go.IntKind.u64.wrap (32 - bAnd .u64 (Go.IntKind.u64.wrap (-(n : Int))) 31))) = _
  have h7 : r * 2 ^ (32 - n) + 2 ^ (32 - n) ≤ 4294967296 := by
    have := Int.mul_le_mul_of_nonneg_right (show r + 1 ≤ 2 ^ n by omega) (Int.le_of_lt p2)
    rw [hp, Int.add_mul, Int.one_mul] at this
    exact this
  have h8 : 0 ≤ r * 2 ^ (32 - n) := Int.mul_nonneg h3 (by omega)
  rw [e1, e2, e3, e4, bOr_add .u32 (32 - n) _ _ h8 (by simp only [Go.IntKind.bits]; omega) (Int.mul_emod_left _ _) h5 h6 (by simp only [Go.IntKind.bits]; omega) rfl, tr, hq, hr, Int.add_comm]
theorem turn_eq {x : Int} {n : Nat} (hx : W32 x) (h0 : 0 < n) (h1 : n < 32) : bAnd .u64 (bOr .u64 (iShr .u64 x (n : Int)) (iShl .u64 x (Go.IntKind.i64.wrap (32 - (n : Int))))) 4294967295 = tr x n := by
  obtain ⟨q, r, h2, h3, h4, h5, h6, hp, hq, hr⟩ := tr_split hx h0 h1
  have p2 : (0 : Int) < 2 ^ (32 - n) := Int.pow_pos (by decide)
  have p1 : (0 : Int) < 2 ^ n := Int.pow_pos (by decide)
  have e1 : Go.IntKind.i64.wrap (32 - (n : Int)) = ((32 - n : Nat) : Int) := by rw [wrap_i64]; omega
  have hb : (2 : Int) ^ (32 - n) ≤ 4294967296 := by
    rw [← hp]
    have := Int.mul_le_mul_of_nonneg_right (show (1 : Int) ≤ 2 ^ n by omega) (Int.le_of_lt p2)
    omega
  have hxs : x * 2 ^ (32 - n) < 18446744073709551616 := by
    have h7 : x * 2 ^ (32 - n) ≤ x * 4294967296 := Int.mul_le_mul_of_nonneg_left hb hx.1
    have := hx.2
    omega
  have hx0 : 0 ≤ x * 2 ^ (32 - n) := Int.mul_nonneg hx.1 (by omega)
  have e3 : iShl .u64 x ((32 - n : Nat) : Int) = x * 2 ^ (32 - n) := by
    rw [iShl, Int.toNat_natCast, Nat.min_eq_left (by simp only [Go.IntKind.bits]; omega), wrap_u64, Int.emod_eq_of_lt hx0 hxs]
  have e4 : iShr .u64 x (n : Int) = q := by
    rw [iShr_eq, Int.toNat_natCast, Nat.min_eq_left (by simp only [Go.IntKind.bits]; omega), hq]
  have hq32 : q < 4294967296 := by omega
  have e5 : bOr .u64 q (x * 2 ^ (32 - n)) = x * 2 ^ (32 - n) + q := by
    have hc : bOr .u64 q (x * 2 ^ (32 - n)) = bOr .u64 (x * 2 ^ (32 - n)) q := by unfold bOr; rw [BitVec.or_comm]
    rw [hc]
    exact bOr_add .u64 (32 - n) _ _ hx0 (by simp only [Go.IntKind.bits]; omega) (Int.mul_emod_left _ _) h5 h6 (by simp only [Go.IntKind.bits]; omega) rfl
  have h7 : r * 2 ^ (32 - n) + 2 ^ (32 - n) ≤ 4294967296 := by
    have := Int.mul_le_mul_of_nonneg_right (show r + 1 ≤ 2 ^ n by omega) (Int.le_of_lt p2)
    rw [hp, Int.add_mul, Int.one_mul] at this
    exact this
  have hm : (x * 2 ^ (32 - n) + q) % 4294967296 = q + r * 2 ^ (32 - n) := by
    have h8 : 0 ≤ r * 2 ^ (32 - n) := Int.mul_nonneg h3 (by omega)
    omega
  have hub : x * 2 ^ (32 - n) + q < 18446744073709551616 := by
    have h9 : x * 2 ^ (32 - n) ≤ 4294967295 * 2 ^ (32 - n) := Int.mul_le_mul_of_nonneg_right (by have := hx.2; omega) (by omega)
    omega
  rw [e1, e3, e4, e5, cut_eq (by omega) hub, hm, tr, hq, hr]
end Am
set_option linter.unusedSimpArgs false
set_option linter.unusedVariables false
set_option maxRecDepth 20000
namespace Am
open Go.Proofs
/-! ### The reference's rounds, as its code has them -/
def cutr (x : Int) : Int := bAnd .u64 x 4294967295
def trn (x n : Int) : Int := cutr (bOr .u64 (iShr .u64 x n) (iShl .u64 x (Go.IntKind.i64.wrap (32 - n))))
def rB (p : List Int) (o : Nat) (w : List Int) (i : Nat) : List Int := w.set (i / 4) (bOr .u64 (iShl .u64 (getI w (i / 4)) 8) (Go.IntKind.u64.wrap (getI p (o + i))))
def rS (a b c : Int) (x : Int) : Int := bXor .u64 (bXor .u64 (trn x a) (trn x b)) (iShr .u64 x c)
def r3 (a b c : Int) (x : Int) : Int := bXor .u64 (bXor .u64 (trn x a) (trn x b)) (trn x c)
def rWv (w : List Int) (i : Nat) : Int := cutr (Go.IntKind.u64.wrap (Go.IntKind.u64.wrap (Go.IntKind.u64.wrap (getI w (i - 16) + rS 7 18 3 (getI w (i - 15))) + getI w (i - 7)) + rS 17 19 10 (getI w (i - 2))))
def rt (K : Int) (w v : List Int) (i : Nat) : Int := Go.IntKind.u64.wrap (Go.IntKind.u64.wrap (Go.IntKind.u64.wrap (Go.IntKind.u64.wrap (getI v 7 + r3 6 11 25 (getI v 4)) + bOr .u64 (bAnd .u64 (getI v 4) (getI v 5)) (bAnd .u64 (bXor .u64 (if Go.IntKind.u64.signed then -1 else Go.IntKind.u64.max) (getI v 4)) (getI v 6))) + K) + getI w i)
def ru (v : List Int) : Int := Go.IntKind.u64.wrap (r3 2 13 22 (getI v 0) + bOr .u64 (bOr .u64 (bAnd .u64 (getI v 0) (getI v 1)) (bAnd .u64 (getI v 0) (getI v 2))) (bAnd .u64 (getI v 1) (getI v 2)))
def rR (K : Int) (w v : List Int) (i : Nat) : List Int := [cutr (Go.IntKind.u64.wrap (rt K w v i + ru v)), getI v 0, getI v 1, getI v 2, cutr (Go.IntKind.u64.wrap (getI v 3 + rt K w v i)), getI v 4, getI v 5, getI v 6]
theorem trn_eq {x : Int} (n : Nat) (hx : W32 x) (h0 : 0 < n) (h1 : n < 32) : trn x (n : Int) = tr x n := turn_eq hx h0 h1
theorem rS_eq {x : Int} (a b c : Nat) (hx : W32 x) (ha : 0 < a ∧ a < 32) (hb : 0 < b ∧ b < 32) (hc : c < 32) : rS a b c x = sg (-(a : Int)) (-(b : Int)) c x ∧ W32 (sg (-(a : Int)) (-(b : Int)) c x) := by
  have e1 : iShr .u64 x (c : Int) = iShr .u32 x (c : Int) := by
    rw [iShr_eq, iShr_eq, Int.toNat_natCast, Nat.min_eq_left (by simp only [Go.IntKind.bits]; omega), Nat.min_eq_left (by simp only [Go.IntKind.bits]; omega)]
  have h3 : W32 (iShr .u32 x (c : Int)) := by
    rw [iShr_eq]
    have hp : (0 : Int) < 2 ^ min (c : Int).toNat Go.IntKind.u32.bits := Int.pow_pos (by decide)
    exact ⟨Int.ediv_nonneg hx.1 (by omega), Int.lt_of_le_of_lt (Int.ediv_le_self _ hx.1) hx.2⟩
  have h1 := tr_32 hx ha.1 ha.2
  have h2 := tr_32 hx hb.1 hb.2
  have h4 := xor_32 h1 h2
  unfold rS sg
  rw [trn_eq a hx ha.1 ha.2, trn_eq b hx hb.1 hb.2, r32_eq hx ha.1 ha.2, r32_eq hx hb.1 hb.2, e1, xor_64 h1 h2, xor_64 h4 h3]
  exact ⟨rfl, xor_32 h4 h3⟩
theorem r3_eq {x : Int} (a b c : Nat) (hx : W32 x) (ha : 0 < a ∧ a < 32) (hb : 0 < b ∧ b < 32) (hc : 0 < c ∧ c < 32) : r3 a b c x = s3 (-(a : Int)) (-(b : Int)) (-(c : Int)) x ∧ W32 (s3 (-(a : Int)) (-(b : Int)) (-(c : Int)) x) := by
  have h1 := tr_32 hx ha.1 ha.2
  have h2 := tr_32 hx hb.1 hb.2
  have h3 := tr_32 hx hc.1 hc.2
  have h4 := xor_32 h1 h2
  unfold r3 s3
  rw [trn_eq a hx ha.1 ha.2, trn_eq b hx hb.1 hb.2, trn_eq c hx hc.1 hc.2, r32_eq hx ha.1 ha.2, r32_eq hx hb.1 hb.2, r32_eq hx hc.1 hc.2, xor_64 h1 h2, xor_64 h4 h3]
  exact ⟨rfl, xor_32 h4 h3⟩
def D32 (l : List Int) : Prop := ∀ i, W32 (getI l i)
theorem D32.set {l : List Int} (h : D32 l) (i : Nat) {v : Int} (hv : W32 v) : D32 (l.set i v) := by
  intro j
  by_cases hl : i < l.length
  · rw [getI_set _ _ _ _ hl]
    split
    · exact hv
    · exact h j
  · rw [List.set_eq_of_length_le (by omega)]
    exact h j
theorem w32_wrap (x : Int) : W32 (Go.IntKind.u32.wrap x) := by rw [wrap_u32]; exact ⟨by omega, by omega⟩
theorem rWv_eq {w : List Int} (hw : D32 w) (i : Nat) : rWv w i = whi w i := by
  have a0 := hw (i - 16)
  have a1 := hw (i - 7)
  have s1 := rS_eq 7 18 3 (hw (i - 15)) (by decide) (by decide) (by decide)
  have s2 := rS_eq 17 19 10 (hw (i - 2)) (by decide) (by decide) (by decide)
  simp only [Int.cast_ofNat_Int] at s1 s2
  unfold rWv whi
  rw [s1.1, s2.1]
  have b1 := s1.2
  have b2 := s2.2
  generalize sg (-7) (-18) 3 (getI w (i - 15)) = x at *
  generalize sg (-17) (-19) 10 (getI w (i - 2)) = y at *
  generalize getI w (i - 16) = z at *
  generalize getI w (i - 7) = u at *
  unfold W32 at *
  rw [cutr, cut_eq (by rw [wrap_u64]; omega) (by rw [wrap_u64]; omega)]
  simp only [wrap_u64, wrap_u32]
  omega
theorem rR_eq {w v : List Int} {K : Int} {i : Nat} (hv : D32 v) (hw : D32 w) (hK : W32 K) (hk : K = iShr .u64 (getI roots i) 32) : rR K w v i = R256 w v i := by
  have c := ch_eq (hv 4) (hv 5) (hv 6)
  have m := maj_eq (hv 0) (hv 1) (hv 2)
  have s1 := r3_eq 6 11 25 (hv 4) (by decide) (by decide) (by decide)
  have s2 := r3_eq 2 13 22 (hv 0) (by decide) (by decide) (by decide)
  simp only [Int.cast_ofNat_Int] at s1 s2
  have a7 := hv 7
  have a3 := hv 3
  have aw := hw i
  unfold rR R256 rt ru t256 u256
  rw [c.1, m.1, s1.1, s2.1, ← hk]
  have b1 := s1.2
  have b2 := s2.2
  have b3 := c.2
  have b4 := m.2
  generalize s3 (-6) (-11) (-25) (getI v 4) = x at *
  generalize s3 (-2) (-13) (-22) (getI v 0) = y at *
  generalize bXor .u32 (bAnd .u32 (getI v 4) (getI v 5)) (bAnd .u32 (bXor .u32 (if Go.IntKind.u32.signed then -1 else Go.IntKind.u32.max) (getI v 4)) (getI v 6)) = z at *
  generalize bXor .u32 (bXor .u32 (bAnd .u32 (getI v 0) (getI v 1)) (bAnd .u32 (getI v 0) (getI v 2))) (bAnd .u32 (getI v 1) (getI v 2)) = u at *
  generalize getI v 7 = v7 at *
  generalize getI v 3 = v3 at *
  generalize getI w i = wi at *
  unfold W32 at *
  have e1 : ∀ q : Int, cutr (Go.IntKind.u64.wrap q) = Go.IntKind.u64.wrap q % 4294967296 := fun q => by rw [cutr, cut_eq (by rw [wrap_u64]; omega) (by rw [wrap_u64]; omega)]
  rw [e1, e1]
  simp only [wrap_u64, wrap_u32]
  congr 1
  · omega
  · congr 4
    · omega
theorem rH_eq {v h : List Int} {i : Nat} (hv : D32 v) (hh : D32 h) : cutr (Go.IntKind.u64.wrap (getI h i + getI v i)) = Go.IntKind.u32.wrap (getI h i + getI v i) := by
  have a := hv i
  have b := hh i
  unfold W32 at *
  rw [cutr, cut_eq (by rw [wrap_u64]; omega) (by rw [wrap_u64]; omega)]
  simp only [wrap_u64, wrap_u32]
  omega
theorem D32_rep (n : Nat) : D32 (List.replicate n 0) := fun i => by rw [getI_replicate0]; exact ⟨by decide, by decide⟩
theorem D32_R {w v : List Int} (hv : D32 v) (i : Nat) : D32 (R256 w v i) := by
  intro j
  unfold R256
  rcases j with _ | _ | _ | _ | _ | _ | _ | _ | j
  · exact w32_wrap _
  · exact hv 0
  · exact hv 1
  · exact hv 2
  · exact w32_wrap _
  · exact hv 4
  · exact hv 5
  · exact hv 6
  · rw [getI_of_le (by simp)]; exact ⟨by decide, by decide⟩
theorem D32_itR {w v : List Int} (hv : D32 v) : ∀ n, D32 (it (R256 w) v n)
  | 0 => hv
  | n + 1 => by rw [it]; exact D32_R (D32_itR hv n) n
theorem D32_itH {v h : List Int} (hh : D32 h) : ∀ n, D32 (it (H256 v) h n)
  | 0 => hh
  | n + 1 => by rw [it, H256]; exact (D32_itH hh n).set _ (w32_wrap _)
theorem D32_init : D32 init256 := by
  intro j
  by_cases h : j < 8
  · rcases (by omega : j = 0 ∨ j = 1 ∨ j = 2 ∨ j = 3 ∨ j = 4 ∨ j = 5 ∨ j = 6 ∨ j = 7) with rfl | rfl | rfl | rfl | rfl | rfl | rfl | rfl <;> exact ⟨by decide, by decide⟩
  · rw [getI_of_le (by simp [init256]; omega)]; exact ⟨by decide, by decide⟩
theorem D32_blocks {p h : List Int} (hh : D32 h) : ∀ n, D32 (it (block256 p) h n)
  | 0 => hh
  | n + 1 => by rw [it]; unfold block256; exact D32_itH (D32_blocks hh n) 8
/-! ### A block's words -/
theorem wlo_sum {p : List Int} (hp : Dig 256 p) (j : Nat) : wlo p j = getI p j * 16777216 + getI p (j + 1) * 65536 + getI p (j + 2) * 256 + getI p (j + 3) := by
  have a := hp.all (by decide) j
  have b := hp.all (by decide) (j + 1)
  have c := hp.all (by decide) (j + 2)
  have d := hp.all (by decide) (j + 3)
  unfold wlo
  generalize getI p j = x at *
  generalize getI p (j + 1) = y at *
  generalize getI p (j + 2) = z at *
  generalize getI p (j + 3) = u at *
  have e1 : iShl .u32 (Go.IntKind.u32.wrap x) 24 = x * 16777216 := by simp only [iShl, wrap_u8, wrap_u16, wrap_u32, wrap_u64, iShr_eq, Go.IntKind.bits, Int.reduceToNat, Int.toNat_natCast, Nat.min_def, Nat.reduceLeDiff, reduceIte, Int.reducePow]; omega
  have e2 : iShl .u32 (Go.IntKind.u32.wrap y) 16 = y * 65536 := by simp only [iShl, wrap_u8, wrap_u16, wrap_u32, wrap_u64, iShr_eq, Go.IntKind.bits, Int.reduceToNat, Int.toNat_natCast, Nat.min_def, Nat.reduceLeDiff, reduceIte, Int.reducePow]; omega
  have e3 : iShl .u32 (Go.IntKind.u32.wrap z) 8 = z * 256 := by simp only [iShl, wrap_u8, wrap_u16, wrap_u32, wrap_u64, iShr_eq, Go.IntKind.bits, Int.reduceToNat, Int.toNat_natCast, Nat.min_def, Nat.reduceLeDiff, reduceIte, Int.reducePow]; omega
  have e4 : Go.IntKind.u32.wrap u = u := by rw [wrap_u32]; omega
  rw [e1, e2, e3, e4, bOr_add .u32 24 (x * 16777216) (y * 65536) (by omega) (by simp only [Go.IntKind.bits]; omega) (by omega) (by omega) (by omega) (by decide) rfl,
    bOr_add .u32 16 (x * 16777216 + y * 65536) (z * 256) (by omega) (by simp only [Go.IntKind.bits]; omega) (by omega) (by omega) (by omega) (by decide) rfl,
    bOr_add .u32 8 (x * 16777216 + y * 65536 + z * 256) u (by omega) (by simp only [Go.IntKind.bits]; omega) (by omega) (by omega) (by omega) (by decide) rfl]
theorem wlo_32 {p : List Int} (hp : Dig 256 p) (j : Nat) : W32 (wlo p j) := by
  have a := hp.all (by decide) j
  have b := hp.all (by decide) (j + 1)
  have c := hp.all (by decide) (j + 2)
  have d := hp.all (by decide) (j + 3)
  rw [wlo_sum hp]
  exact ⟨by omega, by omega⟩
theorem D32_itW {p : List Int} (hp : Dig 256 p) (o : Nat) {w : List Int} (hw : D32 w) : ∀ n, D32 (it (W256 p o) w n)
  | 0 => hw
  | n + 1 => by
    rw [it, W256]
    refine (D32_itW hp o hw n).set _ ?_
    split
    · exact wlo_32 hp _
    · exact w32_wrap _
theorem itW_zero {p : List Int} {o : Nat} : ∀ (n j : Nat), n ≤ j → getI (it (W256 p o) z64 n) j = 0
  | 0, j, _ => getI_replicate0 64 j
  | n + 1, j, h => by
    rw [it, W256]
    by_cases hl : n < (it (W256 p o) z64 n).length
    · rw [getI_set _ _ _ _ hl, if_neg (by omega)]
      exact itW_zero n j (by omega)
    · rw [List.set_eq_of_length_le (by omega)]
      exact itW_zero n j (by omega)
theorem shl8 {x y : Int} (hx : 0 ≤ x ∧ x < 16777216) (hy : 0 ≤ y ∧ y < 256) : bOr .u64 (iShl .u64 x 8) (Go.IntKind.u64.wrap y) = x * 256 + y := by
  have e1 : iShl .u64 x 8 = x * 256 := by simp only [iShl, wrap_u8, wrap_u16, wrap_u32, wrap_u64, iShr_eq, Go.IntKind.bits, Int.reduceToNat, Int.toNat_natCast, Nat.min_def, Nat.reduceLeDiff, reduceIte, Int.reducePow]; omega
  rw [e1, wu64 hy.1 (by omega), bOr_add .u64 8 _ _ (by omega) (by simp only [Go.IntKind.bits]; omega) (by omega) hy.1 hy.2 (by decide) rfl]
theorem rB_four {p : List Int} (hp : Dig 256 p) (o q : Nat) {w : List Int} (hw : getI w q = 0) (hq : q < w.length) :
    rB p o (rB p o (rB p o (rB p o w (4 * q)) (4 * q + 1)) (4 * q + 2)) (4 * q + 3) = w.set q (wlo p (o + 4 * q)) := by
  have a := hp.all (by decide) (o + 4 * q)
  have b := hp.all (by decide) (o + 4 * q + 1)
  have c := hp.all (by decide) (o + 4 * q + 2)
  have d := hp.all (by decide) (o + 4 * q + 3)
  rw [wlo_sum hp]
  unfold rB
  rw [show 4 * q / 4 = q by omega, show (4 * q + 1) / 4 = q by omega, show (4 * q + 2) / 4 = q by omega, show (4 * q + 3) / 4 = q by omega, hw]
  simp only [List.set_set, getI_set _ _ _ _ (show q < (w.set q _).length by simpa using hq), getI_set _ _ _ _ hq, if_true, ← Nat.add_assoc]
  generalize getI p (o + 4 * q) = x at *
  generalize getI p (o + 4 * q + 1) = y at *
  generalize getI p (o + 4 * q + 2) = z at *
  generalize getI p (o + 4 * q + 3) = u at *
  rw [shl8 (by omega) a, shl8 (by omega) b, shl8 (by omega) c, shl8 (by omega) d]
  congr 1
  omega
theorem rB_all {p : List Int} (hp : Dig 256 p) (o : Nat) : ∀ q, q ≤ 16 → it (rB p o) z64 (4 * q) = it (W256 p o) z64 q
  | 0, _ => rfl
  | q + 1, h => by
    have ih := rB_all hp o q (by omega)
    show rB p o (rB p o (rB p o (rB p o (it (rB p o) z64 (4 * q)) (4 * q)) (4 * q + 1)) (4 * q + 2)) (4 * q + 3) = _
    rw [ih, rB_four hp o q (itW_zero q q (by omega)) (by rw [W256_len]; show q < 64; omega)]
    rw [it, W256, if_pos (by omega)]
theorem rB_len {p : List Int} {o : Nat} {w : List Int} : ∀ n, (it (rB p o) w n).length = w.length
  | 0 => rfl
  | n + 1 => by rw [it, rB, List.length_set, rB_len n]
/-! ### Bytes behind -/
theorem O256_get {h : List Int} : ∀ n, n ≤ 32 → ∀ i, i < n → getI (it (O256 h) z32 n) i = Go.IntKind.u8.wrap (iShr .u32 (getI h (i / 4)) ((24 - i % 4 * 8 : Nat) : Int))
  | 0, _, i, hi => by omega
  | n + 1, hn, i, hi => by
    rw [it, O256, getI_set _ _ _ _ (by rw [O256_len]; show n < 32; omega)]
    split
    · rename_i e; rw [e]
    · exact O256_get n (by omega) i (by omega)
theorem O256_take {h : List Int} {i : Nat} (hi : i < 32) : (it (O256 h) z32 32).take (i + 1) = (it (O256 h) z32 32).take i ++ [Go.IntKind.u8.wrap (iShr .u64 (getI h (i / 4)) ((24 - i % 4 * 8 : Nat) : Int))] := by
  have e : ∀ (x : Int) (n : Nat), n ≤ 24 → iShr .u64 x n = iShr .u32 x n := fun x n hn => by
    rw [iShr_eq, iShr_eq, Int.toNat_natCast, Nat.min_eq_left (by simp only [Go.IntKind.bits]; omega), Nat.min_eq_left (by simp only [Go.IntKind.bits]; omega)]
  rw [take_getI (by rw [O256_len]; exact hi), O256_get 32 (by omega) i hi, e _ _ (by omega)]
def th : List Int := (roots.take 64).map fun x => iShr .u64 x 32
theorem th_len : th.length = 64 := rfl
theorem th_get {i : Nat} (h : i < 64) : getI th i = iShr .u64 (getI roots i) 32 := by
  rw [th, getI_map (by simpa [roots] using h), getI_take h]
theorem th_take {i : Nat} (h : i < 64) : th.take (i + 1) = th.take i ++ [iShr .u64 (getI roots i) 32] := by
  rw [take_getI (by rw [th_len]; exact h), th_get h]
theorem th_32 {i : Nat} (h : i < 64) : W32 (getI th i) := by
  have hr : Dig 18446744073709551616 roots := (show ∀ x ∈ roots, 0 ≤ x ∧ x < 18446744073709551616 by decide +kernel)
  have := hr.all (by decide) i
  rw [th_get h, iShr_eq]
  simp only [Int.reduceToNat, Go.IntKind.bits, Nat.min_def, Nat.reduceLeDiff, if_true, Int.reducePow]
  exact ⟨by omega, by omega⟩
theorem hh_take : ∀ i, i < 8 → init256.take (i + 1) = init256.take i ++ [iShr .u64 (getI seconds i) 32] := by decide +kernel
end Am
