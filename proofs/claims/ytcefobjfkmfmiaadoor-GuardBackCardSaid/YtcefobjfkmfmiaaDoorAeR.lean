/-
Working texts: contracts of functions, and the numbers behind them.
-/
import Derived.Test.YtcefobjfkmfmiaaDoorAeN
import Derived.Test.YtcefobjfkmfmiaaDoorAeC
import Derived.Test.YtcefobjfkmfmiaaDoorGcD
set_option linter.unusedSimpArgs false
set_option linter.unusedVariables false
set_option linter.unusedSectionVars false
set_option linter.unusedSimpArgs false
set_option linter.unusedVariables false
set_option maxRecDepth 20000
namespace Am
open Go.Proofs
end Am
set_option linter.unusedSimpArgs false
set_option linter.unusedVariables false
set_option maxRecDepth 20000
namespace Am
open Go.Proofs
/-! ### Bytes, joined -/
theorem xn {a b : Nat} (ha : a < 256) (hb : b < 256) : bXor .u8 (a : Int) (b : Int) = ((a ^^^ b : Nat) : Int) := by
  have hx : a ^^^ b < 256 := Nat.xor_lt_two_pow (n := 8) ha hb
  unfold bXor
  show Go.IntKind.u8.wrap (((BitVec.ofInt 8 (a : Int) ^^^ BitVec.ofInt 8 (b : Int)).toNat : Nat) : Int) = _
  rw [BitVec.ofInt_natCast, BitVec.ofInt_natCast, BitVec.toNat_xor, BitVec.toNat_ofNat, BitVec.toNat_ofNat, Nat.mod_eq_of_lt (by simpa using ha), Nat.mod_eq_of_lt (by simpa using hb), wrap_u8]
  omega
def tw (n : Nat) : Nat := (n * 2 % 256) ^^^ (n / 128 * 27)
def Bt (x : Int) : Prop := 0 ≤ x ∧ x < 256
theorem Bt.nat {x : Int} (h : Bt x) : ∃ n : Nat, x = n ∧ n < 256 := by
  obtain ⟨n, rfl⟩ := Int.eq_ofNat_of_zero_le h.1
  exact ⟨n, rfl, by have := h.2; omega⟩
/-! ### Loops that set one place after the other -/
theorem itr_s {α : Type} {f : α → Nat → α} {x : α} {n : Nat} : itr f x (n + 1) = f (itr f x n) n := rfl
/-- A key made ready holds the rounds' keys and the box. -/
structure Same (L K bx : List Int) : Prop where
  key : ∀ j, j < 176 → getI L j = getI K j
  box : ∀ x, x < 256 → getI L (176 + x) = getI bx x
end Am
set_option linter.unusedSimpArgs false
set_option linter.unusedVariables false
set_option maxRecDepth 20000
namespace Am
open Go.Proofs
/-! ### Sealing and opening, as plain laws -/
theorem xx_self {x f : Int} (hx : Bt x) (hf : Bt f) : bXor .u8 (bXor .u8 x f) f = x := by
  obtain ⟨n, rfl, hn⟩ := hx.nat
  obtain ⟨m, rfl, hm⟩ := hf.nat
  rw [xn hn hm, xn (Nat.xor_lt_two_pow (n := 8) hn hm) hm, Nat.xor_assoc, Nat.xor_self, Nat.xor_zero]
theorem orn {a b : Nat} (ha : a < 256) (hb : b < 256) : bOr .u8 (a : Int) (b : Int) = ((a ||| b : Nat) : Int) := by
  have hx : a ||| b < 256 := Nat.or_lt_two_pow (n := 8) ha hb
  unfold bOr
  show Go.IntKind.u8.wrap (((BitVec.ofInt 8 (a : Int) ||| BitVec.ofInt 8 (b : Int)).toNat : Nat) : Int) = _
  rw [BitVec.ofInt_natCast, BitVec.ofInt_natCast, BitVec.toNat_or, BitVec.toNat_ofNat, BitVec.toNat_ofNat, Nat.mod_eq_of_lt (by simpa using ha), Nat.mod_eq_of_lt (by simpa using hb), wrap_u8]
  omega
theorem or_zero' {a b : Nat} : a ||| b = 0 ↔ a = 0 ∧ b = 0 := by
  constructor
  · intro h
    have h1 : a ≤ a ||| b := Nat.left_le_or
    have h2 : b ≤ a ||| b := Nat.right_le_or
    omega
  · rintro ⟨rfl, rfl⟩; rfl
theorem or_bt {a b : Int} (ha : Bt a) (hb : Bt b) : Bt (bOr .u8 a b) ∧ (bOr .u8 a b = 0 ↔ a = 0 ∧ b = 0) := by
  obtain ⟨n, rfl, hn⟩ := ha.nat
  obtain ⟨m, rfl, hm⟩ := hb.nat
  have hx : n ||| m < 256 := Nat.or_lt_two_pow (n := 8) hn hm
  rw [orn hn hm]
  refine ⟨⟨by omega, by omega⟩, ?_⟩
  have := or_zero' (a := n) (b := m)
  omega
theorem xor_zero' {a b : Int} (ha : Bt a) (hb : Bt b) : bXor .u8 a b = 0 ↔ a = b := by
  obtain ⟨n, rfl, hn⟩ := ha.nat
  obtain ⟨m, rfl, hm⟩ := hb.nat
  rw [xn hn hm]
  constructor
  · intro h
    have h0 : n ^^^ m = 0 := by omega
    have := congrArg (· ^^^ m) h0
    simp only [Nat.xor_assoc, Nat.xor_self, Nat.xor_zero, Nat.zero_xor] at this
    rw [this]
  · intro h
    have : n = m := by omega
    rw [this, Nat.xor_self]; rfl
theorem df_iff {t u : List Int} (ht : B16 t) (hu : B16 u) : dfF t u = 0 ↔ t = u := by
  have bt : ∀ j, Bt (getI t j) := fun j => ht.2.all (by decide) j
  have bu : ∀ j, Bt (getI u j) := fun j => hu.2.all (by decide) j
  have key : ∀ n, Bt (itr (dfS t u) 0 n) ∧ (itr (dfS t u) 0 n = 0 ↔ ∀ j, j < n → getI t j = getI u j) := by
    intro n
    induction n with
    | zero => exact ⟨⟨by simp [itr], by simp [itr]⟩, ⟨fun _ j hj => by omega, fun _ => rfl⟩⟩
    | succ n ih =>
      rw [itr_s]
      have hx : Bt (bXor .u8 (getI t n) (getI u n)) := x8_bd _ _
      obtain ⟨h1, h2⟩ := or_bt ih.1 hx
      refine ⟨h1, ?_⟩
      show bOr .u8 (itr (dfS t u) 0 n) (bXor .u8 (getI t n) (getI u n)) = 0 ↔ _
      rw [h2, ih.2, xor_zero' (bt n) (bu n)]
      constructor
      · rintro ⟨h3, h4⟩ j hj
        rcases (by omega : j < n ∨ j = n) with h | rfl
        · exact h3 j h
        · exact h4
      · intro h
        exact ⟨fun j hj => h j (by omega), h n (by omega)⟩
  rw [dfF, (key 16).2]
  constructor
  · intro h
    exact getI_ext (ht.1.trans hu.1.symm) fun j hj => h j (by rw [ht.1] at hj; exact hj)
  · rintro rfl j _; rfl
theorem ks_bt {L n : List Int} (hL : L432 L) (hn : B12 n) (j : Nat) : Bt (ksAt L n j) := (strB_ok hL hn _).2.all (by decide) _
theorem xorAt_twice {f : Nat → Int} (hf : ∀ j, Bt (f j)) : ∀ {b : List Int} {o : Nat}, Dig 256 b → xorAt f (xorAt f b o) o = b
  | [], _, _ => rfl
  | x :: r, o, h => by
    simp only [xorAt]
    rw [xx_self (h x (by simp)) (hf o), xorAt_twice hf fun y hy => h y (by simp [hy])]
theorem str_twice {L n b : List Int} (hL : L432 L) (hn : B12 n) (hb : Dig 256 b) : strF L n (strF L n b) = b := xorAt_twice (ks_bt hL hn) hb
theorem seal_len (k n a b : List Int) : (sealF k n a b).length = b.length + 16 := by
  simp [sealF, str_len, (tag_ok _ _ _ _).1]
theorem seal_dig (k n a b : List Int) : Dig 256 (sealF k n a b) := (str_dig _ _ _).append (tag_ok _ _ _ _).2
/-- What is opened is just what was sealed. -/
theorem opn_iff {k n a b : List Int} (hb : Dig 256 b) : opnB k n a b = true ↔ 16 ≤ b.length ∧ tagF (newF k) n a (bodyF b) = b.drop (b.length - 16) := by
  unfold opnB
  split
  · rename_i h
    constructor
    · intro h; cases h
    · intro h; omega
  · rename_i h
    have hd : B16 (b.drop (b.length - 16)) := ⟨by simp; omega, fun x hx => hb x (List.mem_of_mem_drop hx)⟩
    rw [rightB, decide_eq_true_eq, df_iff (tag_ok _ _ _ _) hd]
    constructor
    · intro h2; exact ⟨by omega, h2⟩
    · intro h2; exact h2.2
theorem opn_seal (k n a b : List Int) (hk : B16 k) (hn : B12 n) (hb : Dig 256 b) : opnB k n a (sealF k n a b) = true ∧ opnS k n a (sealF k n a b) = b := by
  have hl := seal_len k n a b
  have hbd : bodyF (sealF k n a b) = strF (newF k) n b := by
    rw [bodyF, hl, sealF]
    simp [sub, str_len]
  have h : opnB k n a (sealF k n a b) = true := by
    rw [opn_iff (seal_dig _ _ _ _)]
    refine ⟨by omega, ?_⟩
    rw [hbd, hl, sealF]
    simp [str_len]
  refine ⟨h, ?_⟩
  rw [opnS, h, if_pos rfl, hbd, str_twice (new_ok hk) hn hb]
theorem getI_app {a b : List Int} {j : Nat} (h : j < a.length) : getI (a ++ b) j = getI a j := by
  simp [getI, List.getD_eq_getElem?_getD, List.getElem?_append_left h]
end Am
