/-
Numbers: lists of digits; what the small language's arithmetic is.
-/
import Derived.Test.YtdhoblnbonldeaaDoorAmLoop
set_option linter.unusedSimpArgs false
set_option linter.unusedVariables false
set_option linter.unusedSectionVars false
set_option linter.unusedSimpArgs false
set_option linter.unusedVariables false
namespace Am
open Go (IntKind BinOp UnOp FuncId)

/-! ### Wrapping -/
theorem wrap_u8 (n : Int) : IntKind.u8.wrap n = n % 256 := by simp [IntKind.wrap, IntKind.signed, IntKind.bits]
theorem wrap_u16 (n : Int) : IntKind.u16.wrap n = n % 65536 := by simp [IntKind.wrap, IntKind.signed, IntKind.bits]
theorem wrap_u32 (n : Int) : IntKind.u32.wrap n = n % 4294967296 := by simp [IntKind.wrap, IntKind.signed, IntKind.bits]
theorem wrap_u64 (n : Int) : IntKind.u64.wrap n = n % 18446744073709551616 := by simp [IntKind.wrap, IntKind.signed, IntKind.bits]
theorem wrap_i64 (n : Int) : IntKind.i64.wrap n = (n + 9223372036854775808) % 18446744073709551616 - 9223372036854775808 := by
  simp [IntKind.wrap, IntKind.signed, IntKind.bits]
  split <;> omega
theorem wrap_i32 (n : Int) : IntKind.i32.wrap n = (n + 2147483648) % 4294967296 - 2147483648 := by
  simp [IntKind.wrap, IntKind.signed, IntKind.bits]
  split <;> omega
theorem wrap_i16 (n : Int) : IntKind.i16.wrap n = (n + 32768) % 65536 - 32768 := by
  simp [IntKind.wrap, IntKind.signed, IntKind.bits]
  split <;> omega
theorem wrap_i8 (n : Int) : IntKind.i8.wrap n = (n + 128) % 256 - 128 := by
  simp [IntKind.wrap, IntKind.signed, IntKind.bits]
  split <;> omega

theorem iShr_eq (k : IntKind) (a b : Int) : iShr k a b = a / 2 ^ (min b.toNat k.bits) := by
  unfold iShr
  rw [Int.fdiv_eq_ediv_of_nonneg]
  exact Int.le_of_lt (Int.pow_pos (by omega))

/-! ### Bits -/
theorem toNat_ofInt (k : Nat) (a : Int) (h0 : 0 ≤ a) (h1 : a < 2 ^ k) : (BitVec.ofInt k a).toNat = a.toNat := by
  rw [BitVec.toNat_ofInt]
  congr 1
  exact Int.emod_eq_of_lt h0 (by simpa using h1)
/-- The lowest bits. -/
theorem bAnd_mask (k : IntKind) (m : Nat) (a : Int) (h0 : 0 ≤ a) (h1 : a < 2 ^ k.bits) (hm : m ≤ k.bits) (hs : k.signed = false) : bAnd k a (2 ^ m - 1) = a % 2 ^ m := by
  have e2 : ((2 : Int) ^ m - 1) = ((2 ^ m - 1 : Nat) : Int) := by
    have : 1 ≤ 2 ^ m := Nat.one_le_two_pow
    rw [Int.ofNat_sub this]; simp
  have hb : (2 : Int) ^ m ≤ 2 ^ k.bits := by
    have : (2 : Nat) ^ m ≤ 2 ^ k.bits := Nat.pow_le_pow_right (by omega) hm
    exact_mod_cast this
  have hp : (1 : Int) ≤ 2 ^ m := by
    have : 1 ≤ 2 ^ m := Nat.one_le_two_pow
    exact_mod_cast this
  unfold bAnd
  rw [BitVec.toNat_and, toNat_ofInt _ _ h0 h1, toNat_ofInt _ (2 ^ m - 1) (by omega) (by omega), e2, Int.toNat_natCast, Nat.and_two_pow_sub_one_eq_mod]
  have e3 : ((a.toNat % 2 ^ m : Nat) : Int) = a % 2 ^ m := by
    rw [Int.natCast_emod, Int.toNat_of_nonneg h0]; simp
  rw [e3]
  have l1 : 0 ≤ a % 2 ^ m := Int.emod_nonneg _ (by omega)
  have l2 : a % 2 ^ m < 2 ^ m := Int.emod_lt_of_pos _ (by omega)
  simp only [IntKind.wrap, hs, Bool.false_and]
  exact Int.emod_eq_of_lt l1 (by omega)
/-- What has no bit in common is added. -/
theorem bOr_add (k : IntKind) (m : Nat) (a b : Int) (h0 : 0 ≤ a) (h1 : a < 2 ^ k.bits) (ha : a % 2 ^ m = 0) (b0 : 0 ≤ b) (b1 : b < 2 ^ m) (hm : m ≤ k.bits) (hs : k.signed = false) : bOr k a b = a + b := by
  have hb : (2 : Int) ^ m ≤ 2 ^ k.bits := by
    have : (2 : Nat) ^ m ≤ 2 ^ k.bits := Nat.pow_le_pow_right (by omega) hm
    exact_mod_cast this
  obtain ⟨x, rfl⟩ := Int.eq_ofNat_of_zero_le h0
  obtain ⟨y, rfl⟩ := Int.eq_ofNat_of_zero_le b0
  have ha' : x % 2 ^ m = 0 := by exact_mod_cast ha
  have hy : y < 2 ^ m := by exact_mod_cast b1
  have hx : x < 2 ^ k.bits := by exact_mod_cast h1
  have hbn : 2 ^ m ≤ 2 ^ k.bits := by exact_mod_cast hb
  unfold bOr
  rw [BitVec.toNat_or, toNat_ofInt _ _ h0 h1, toNat_ofInt _ _ b0 (by omega), Int.toNat_natCast, Int.toNat_natCast]
  obtain ⟨q, rfl⟩ : ∃ q, x = 2 ^ m * q := ⟨x / 2 ^ m, by rw [Nat.mul_comm]; exact (Nat.div_mul_cancel (Nat.dvd_of_mod_eq_zero ha')).symm⟩
  rw [← Nat.two_pow_add_eq_or_of_lt hy]
  have hlt : 2 ^ m * q + y < 2 ^ k.bits := by
    obtain ⟨d, hd⟩ := Nat.exists_eq_add_of_le hm
    rw [hd, Nat.pow_add] at hx ⊢
    have hq : q < 2 ^ d := Nat.lt_of_mul_lt_mul_left hx
    calc 2 ^ m * q + y < 2 ^ m * q + 2 ^ m := by omega
      _ = 2 ^ m * (q + 1) := by rw [Nat.mul_add, Nat.mul_one]
      _ ≤ 2 ^ m * 2 ^ d := Nat.mul_le_mul_left _ hq
  simp only [IntKind.wrap, hs, Bool.false_and]
  have hl2 : ((2 ^ m * q + y : Nat) : Int) < 2 ^ k.bits := by exact_mod_cast hlt
  have := Int.emod_eq_of_lt (a := ((2 ^ m * q + y : Nat) : Int)) (by omega) hl2
  simp only [Bool.false_eq_true, if_false, this]
  simp

theorem out_ints {m : Nat} {k : IntKind} {xs ys : List Int} {hp : List Blk} (h : ys = xs) : out m (.one (.v (.ints k xs))) (.ints k ys) hp := by
  subst h; simp [out, outs, out1, pur]
theorem out_int {m : Nat} {k : IntKind} {x y : Int} {hp : List Blk} (h : y = x) : out m (.one (.v (.int k x))) (.int k y) hp := by
  subst h; simp [out, outs, out1, pur]
theorem out_bool {m : Nat} {x y : Bool} {hp : List Blk} (h : y = x) : out m (.one (.v (.bool x))) (.bool y) hp := by
  subst h; simp [out, outs, out1, pur]

/-! ### Lists -/
theorem getI_set (xs : List Int) (i j : Nat) (v : Int) (h : i < xs.length) : getI (xs.set i v) j = if j = i then v else getI xs j := by
  unfold getI
  simp only [List.getD_eq_getElem?_getD, List.getElem?_set]
  by_cases hij : i = j
  · subst hij; simp [h]
  · simp [hij, Ne.symm hij]
theorem getI_mem {xs : List Int} {i : Nat} (h : i < xs.length) : getI xs i ∈ xs := by
  unfold getI
  simp [h]
theorem getI_eq {xs : List Int} {i : Nat} (h : i < xs.length) : getI xs i = xs[i] := by simp [getI, h]
theorem getI_ext {xs ys : List Int} (hl : xs.length = ys.length) (h : ∀ i, i < xs.length → getI xs i = getI ys i) : xs = ys := by
  apply List.ext_getElem hl
  intro i h1 h2
  have := h i h1
  rwa [getI_eq h1, getI_eq h2] at this
theorem getI_sub {xs : List Int} {o n i : Nat} (h : i < n) : getI (sub xs o n) i = getI xs (o + i) := by
  simp [getI, sub, List.getElem?_take, h]
theorem sub_zero {α : Type} {xs : List α} {n : Nat} (h : xs.length = n) : sub xs 0 n = xs := by subst h; simp [sub]
theorem qdb {α : Type} {xs ys : List α} (h : ys.length = xs.length) : spl xs 0 ys = ys := by simp [spl, h]

/-- Digits in their bounds. -/
def Dig (B : Int) (xs : List Int) : Prop := ∀ x ∈ xs, 0 ≤ x ∧ x < B
/-- The number that digits are, the lowest first. -/
def val (B : Int) : List Int → Int
  | [] => 0
  | x :: r => x + B * val B r
/-- So many digits of a number. -/
def dig (B : Int) : Nat → Int → List Int
  | 0, _ => []
  | n + 1, x => x % B :: dig B n (x / B)

theorem Dig.get {B : Int} {xs : List Int} (h : Dig B xs) {i : Nat} (hi : i < xs.length) : 0 ≤ getI xs i ∧ getI xs i < B := h _ (getI_mem hi)
theorem Dig.set {B : Int} {xs : List Int} (h : Dig B xs) (i : Nat) {v : Int} (h0 : 0 ≤ v) (h1 : v < B) : Dig B (xs.set i v) := by
  intro x hx
  rcases List.mem_or_eq_of_mem_set hx with h' | rfl
  · exact h x h'
  · exact ⟨h0, h1⟩
theorem Dig.take {B : Int} {xs : List Int} (h : Dig B xs) (i : Nat) : Dig B (xs.take i) := fun x hx => h x (List.mem_of_mem_take hx)
theorem Dig.drop {B : Int} {xs : List Int} (h : Dig B xs) (i : Nat) : Dig B (xs.drop i) := fun x hx => h x (List.mem_of_mem_drop hx)
theorem Dig.append {B : Int} {xs ys : List Int} (h : Dig B xs) (h' : Dig B ys) : Dig B (xs ++ ys) := fun x hx => by
  rcases List.mem_append.1 hx with h1 | h1
  · exact h x h1
  · exact h' x h1
theorem Dig.replicate {B : Int} (n : Nat) (hB : 0 < B) : Dig B (List.replicate n 0) := fun x hx => by
  rw [(List.mem_replicate.1 hx).2]; exact ⟨by omega, hB⟩
theorem qai (B : Int) : ∀ (n : Nat) (x : Int), (dig B n x).length = n
  | 0, _ => rfl
  | n + 1, x => by simp [dig, qai B n]
theorem dig_dig {B : Int} (hB : 0 < B) : ∀ (n : Nat) (x : Int), Dig B (dig B n x)
  | 0, _ => fun x hx => by simp [dig] at hx
  | n + 1, x => by
    intro y hy
    simp only [dig, List.mem_cons] at hy
    rcases hy with rfl | hy
    · exact ⟨Int.emod_nonneg _ (by omega), Int.emod_lt_of_pos _ hB⟩
    · exact dig_dig hB n _ y hy
theorem val_append (B : Int) : ∀ (xs ys : List Int), val B (xs ++ ys) = val B xs + B ^ xs.length * val B ys
  | [], ys => by simp [val]
  | x :: xs, ys => by
    simp only [List.cons_append, val, val_append B xs ys, List.length_cons, Int.pow_succ]
    rw [Int.mul_add, Int.add_assoc, ← Int.mul_assoc, Int.mul_comm B (B ^ xs.length)]
theorem val_replicate (B : Int) : ∀ n : Nat, val B (List.replicate n 0) = 0
  | 0 => rfl
  | n + 1 => by simp [List.replicate_succ, val, val_replicate B n]
theorem val_bound {B : Int} (hB : 0 < B) : ∀ {xs : List Int}, Dig B xs → 0 ≤ val B xs ∧ val B xs < B ^ xs.length
  | [], _ => by simp [val]
  | x :: xs, h => by
    have hx := h x (by simp)
    obtain ⟨h1, h2⟩ := val_bound hB (xs := xs) fun y hy => h y (by simp [hy])
    simp only [val, List.length_cons, Int.pow_succ]
    have e1 : 0 ≤ B * val B xs := Int.mul_nonneg (by omega) h1
    have e2 : B * val B xs ≤ B * (B ^ xs.length - 1) := Int.mul_le_mul_of_nonneg_left (by omega) (by omega)
    rw [Int.mul_sub, Int.mul_one] at e2
    rw [Int.mul_comm (B ^ xs.length) B]
    omega
theorem dig_val {B : Int} (hB : 0 < B) : ∀ {xs : List Int}, Dig B xs → dig B xs.length (val B xs) = xs
  | [], _ => rfl
  | x :: xs, h => by
    have hx := h x (by simp)
    have ih := dig_val hB (xs := xs) fun y hy => h y (by simp [hy])
    simp only [val, List.length_cons, dig]
    have e1 : (x + B * val B xs) % B = x := by rw [Int.add_mul_emod_self_left]; exact Int.emod_eq_of_lt hx.1 hx.2
    have e2 : (x + B * val B xs) / B = val B xs := by
      rw [Int.add_mul_ediv_left _ _ (by omega), Int.ediv_eq_zero_of_lt hx.1 hx.2, Int.zero_add]
    rw [e1, e2, ih]
theorem val_dig {B : Int} (hB : 0 < B) : ∀ {n : Nat} {x : Int}, 0 ≤ x → x < B ^ n → val B (dig B n x) = x
  | 0, x, h0, h1 => by simp at h1; simp [dig, val]; omega
  | n + 1, x, h0, h1 => by
    simp only [dig, val]
    have hd : x / B < B ^ n := by
      rw [Int.pow_succ] at h1
      exact Int.ediv_lt_of_lt_mul hB h1
    rw [val_dig hB (Int.ediv_nonneg h0 (by omega)) hd]
    exact Int.emod_add_mul_ediv x B
theorem dig_of {B : Int} (hB : 0 < B) {xs : List Int} {n : Nat} {x : Int} (h : Dig B xs) (hl : xs.length = n) (hv : val B xs = x) : xs = dig B n x := by
  subst hl hv; exact (dig_val hB h).symm
theorem getI_dig {B : Int} (hB : 0 < B) : ∀ {n i : Nat} {x : Int}, i < n → getI (dig B n x) i = x / B ^ i % B
  | 0, i, x, h => by omega
  | n + 1, 0, x, _ => by simp [dig, getI]
  | n + 1, i + 1, x, h => by
    have ih := getI_dig hB (n := n) (i := i) (x := x / B) (by omega)
    have e : getI (dig B (n + 1) x) (i + 1) = getI (dig B n (x / B)) i := by simp [getI, dig]
    rw [e, ih, Int.pow_succ, Int.ediv_ediv_of_nonneg (Int.le_of_lt hB), Int.mul_comm B]
theorem val_take_succ (B : Int) : ∀ {xs : List Int} {i : Nat}, i < xs.length → val B (xs.take (i + 1)) = val B (xs.take i) + B ^ i * getI xs i
  | [], i, h => by simp at h
  | x :: xs, 0, h => by simp [val, getI]
  | x :: xs, i + 1, h => by
    have ih := val_take_succ B (xs := xs) (i := i) (by simpa using h)
    have e : getI (x :: xs) (i + 1) = getI xs i := by simp [getI]
    simp only [List.take_succ_cons, val, ih, e, Int.pow_succ]
    rw [Int.mul_add, Int.add_assoc, ← Int.mul_assoc, Int.mul_comm B (B ^ i)]
theorem val_take_set (B : Int) {xs : List Int} {i : Nat} (v : Int) (h : i < xs.length) : val B ((xs.set i v).take (i + 1)) = val B (xs.take i) + B ^ i * v := by
  rw [val_take_succ B (by simpa using h), getI_set _ _ _ _ h, if_pos rfl, List.take_set_of_le (Nat.le_refl _)]
theorem val_take_all (B : Int) {xs : List Int} {n : Nat} (h : xs.length ≤ n) : val B (xs.take n) = val B xs := by rw [List.take_of_length_le h]
theorem val_drop (B : Int) (xs : List Int) (i : Nat) (h : i ≤ xs.length) : val B xs = val B (xs.take i) + B ^ i * val B (xs.drop i) := by
  conv => lhs; rw [← List.take_append_drop i xs, val_append]
  rw [List.length_take, Nat.min_eq_left h]
/-- The highest digit that differs decides. -/
theorem val_lt {B : Int} (hB : 0 < B) : ∀ {xs ys : List Int} {i : Nat}, Dig B xs → Dig B ys → xs.length = ys.length → i < xs.length → (∀ j, i < j → j < xs.length → getI xs j = getI ys j) → getI xs i < getI ys i → val B xs < val B ys
  | [], _, i, _, _, _, hi, _, _ => by simp at hi
  | _ :: _, [], i, _, _, hl, _, _, _ => by simp at hl
  | x :: xs, y :: ys, 0, hx, hy, hl, hi, h, hlt => by
    have : xs = ys := getI_ext (by simpa using hl) fun j hj => by
      have := h (j + 1) (by omega) (by simpa using hj)
      simpa [getI] using this
    subst this
    have e : x < y := by simpa [getI] using hlt
    simp only [val]; omega
  | x :: xs, y :: ys, i + 1, hx, hy, hl, hi, h, hlt => by
    have ih := val_lt hB (xs := xs) (ys := ys) (i := i) (fun z hz => hx z (by simp [hz])) (fun z hz => hy z (by simp [hz])) (by simpa using hl) (by simpa using hi)
      (fun j h1 h2 => by
        have := h (j + 1) (by omega) (by simpa using h2)
        simpa [getI] using this) (by simpa [getI] using hlt)
    have h1 := hx x (by simp)
    have h2 := hy y (by simp)
    simp only [val]
    have e := Int.mul_le_mul_of_nonneg_left (a := val B xs + 1) (b := val B ys) (c := B) (by omega) (by omega)
    rw [Int.mul_add, Int.mul_one] at e
    omega
end Am
/-
Numbers as digits: more laws.
-/
set_option linter.unusedSimpArgs false
set_option linter.unusedVariables false
namespace Am
open Go (IntKind BinOp UnOp FuncId)
theorem w64 {n : Int} (h1 : -9223372036854775808 ≤ n) (h2 : n < 9223372036854775808) : IntKind.i64.wrap n = n := by rw [wrap_i64]; omega
theorem wu8 {n : Int} (h1 : 0 ≤ n) (h2 : n < 256) : IntKind.u8.wrap n = n := by rw [wrap_u8]; omega
theorem wu32 {n : Int} (h1 : 0 ≤ n) (h2 : n < 4294967296) : IntKind.u32.wrap n = n := by rw [wrap_u32]; omega
theorem wu64 {n : Int} (h1 : 0 ≤ n) (h2 : n < 18446744073709551616) : IntKind.u64.wrap n = n := by rw [wrap_u64]; omega
theorem w64_inc {i : Nat} (h : i < 9223372036854775807) : IntKind.i64.wrap ((i : Int) + 1) = ((i + 1 : Nat) : Int) := by rw [wrap_i64]; omega
theorem w64_dec {i : Nat} (h : i ≤ 9223372036854775807) : IntKind.i64.wrap ((i : Int) - 1) = (i : Int) - 1 := by rw [wrap_i64]; omega
theorem w64_div {i k : Nat} (hi : i < 9223372036854775808) : IntKind.i64.wrap ((i : Int).tdiv (k : Int)) = ((i / k : Nat) : Int) := by
  have h : i / k ≤ i := Nat.div_le_self _ _
  rw [Int.tdiv_eq_ediv_of_nonneg (by omega), ← Int.natCast_ediv]
  generalize i / k = q at h
  exact w64 (by omega) (by omega)
theorem tmod_nat {i k : Nat} : (i : Int).tmod (k : Int) = ((i % k : Nat) : Int) := by
  rw [Int.tmod_eq_emod_of_nonneg (by omega), ← Int.natCast_emod]
theorem getI_of_le {xs : List Int} {i : Nat} (h : xs.length ≤ i) : getI xs i = 0 := by
  simp [getI, List.getElem?_eq_none h]
theorem getI_nil (i : Nat) : getI [] i = 0 := by simp [getI]
theorem getI_take {xs : List Int} {i j : Nat} (h : j < i) : getI (xs.take i) j = getI xs j := by simp [getI, List.getElem?_take, h]
theorem getI_drop {xs : List Int} {i j : Nat} : getI (xs.drop i) j = getI xs (i + j) := by simp [getI, List.getElem?_drop]
theorem getI_append_left {xs ys : List Int} {i : Nat} (h : i < xs.length) : getI (xs ++ ys) i = getI xs i := by simp [getI, List.getElem?_append_left h]
theorem getI_append_right {xs ys : List Int} {i : Nat} (h : xs.length ≤ i) : getI (xs ++ ys) i = getI ys (i - xs.length) := by simp [getI, List.getElem?_append_right h]
theorem getI_replicate {n i : Nat} {v : Int} (h : i < n) : getI (List.replicate n v) i = v := by simp [getI, h]
theorem getI_replicate0 (n i : Nat) : getI (List.replicate n 0) i = 0 := by
  rcases Nat.lt_or_ge i n with h | h
  · exact getI_replicate h
  · exact getI_of_le (by simpa using h)
theorem getI_cons_succ (x : Int) (xs : List Int) (i : Nat) : getI (x :: xs) (i + 1) = getI xs i := by simp [getI]
theorem getI_cons_zero (x : Int) (xs : List Int) : getI (x :: xs) 0 = x := by simp [getI]
theorem getI_map {xs : List Int} {f : Int → Int} {i : Nat} (h : i < xs.length) : getI (xs.map f) i = f (getI xs i) := by simp [getI, h]
/-- Digits, also behind the end. -/
theorem Dig.all {B : Int} {xs : List Int} (h : Dig B xs) (hB : 0 < B) (i : Nat) : 0 ≤ getI xs i ∧ getI xs i < B := by
  rcases Nat.lt_or_ge i xs.length with hi | hi
  · exact h.get hi
  · rw [getI_of_le hi]; omega
theorem val_take_succ' (B : Int) (xs : List Int) (i : Nat) : val B (xs.take (i + 1)) = val B (xs.take i) + B ^ i * getI xs i := by
  rcases Nat.lt_or_ge i xs.length with hi | hi
  · exact val_take_succ B hi
  · rw [List.take_of_length_le (by omega), List.take_of_length_le hi, getI_of_le hi, Int.mul_zero, Int.add_zero]
theorem val_take_zero (B : Int) (xs : List Int) : val B (xs.take 0) = 0 := by simp [val]
theorem pow_pos' {B : Int} (hB : 0 < B) (n : Nat) : 0 < B ^ n := Int.pow_pos hB
theorem dig_add_mul {B : Int} (hB : 0 < B) : ∀ (n : Nat) (x k : Int), dig B n (x + k * B ^ n) = dig B n x
  | 0, _, _ => rfl
  | n + 1, x, k => by
    have e : x + k * B ^ (n + 1) = x + B * (k * B ^ n) := by rw [Int.pow_succ, Int.mul_comm (B ^ n) B, ← Int.mul_assoc, Int.mul_comm k B, Int.mul_assoc]
    simp only [dig]
    rw [e, Int.add_mul_emod_self_left, Int.add_mul_ediv_left _ _ (by omega), dig_add_mul hB n]
theorem dig_emod {B : Int} (hB : 0 < B) (n : Nat) (x : Int) : dig B n (x % B ^ n) = dig B n x := by
  have := dig_add_mul hB n (x % B ^ n) (x / B ^ n)
  rw [← this]
  congr 1
  have := Int.emod_add_mul_ediv x (B ^ n)
  rw [Int.mul_comm (B ^ n)] at this
  omega
/-- Digits of a number that is right but for what stands above them. -/
theorem dig_of_mod {B : Int} (hB : 0 < B) {xs : List Int} {n : Nat} {x : Int} (h : Dig B xs) (hl : xs.length = n) (k : Int) (hv : val B xs = x + k * B ^ n) : xs = dig B n x := by
  have := dig_val hB h
  rw [hl, hv, dig_add_mul hB] at this
  exact this.symm
theorem val_dig_mod {B : Int} (hB : 0 < B) (n : Nat) (x : Int) : val B (dig B n x) = x % B ^ n := by
  rw [← dig_emod hB n x]
  exact val_dig hB (Int.emod_nonneg _ (by have := pow_pos' hB n; omega)) (Int.emod_lt_of_pos _ (pow_pos' hB n))
theorem val_set (B : Int) : ∀ (xs : List Int) (i : Nat) (v : Int), i < xs.length → val B (xs.set i v) = val B xs + B ^ i * (v - getI xs i)
  | [], i, v, h => by simp at h
  | x :: xs, 0, v, h => by simp [val, getI]; omega
  | x :: xs, i + 1, v, h => by
    have ih := val_set B xs i v (by simpa using h)
    simp only [List.set_cons_succ, val, ih, getI_cons_succ, Int.pow_succ]
    rw [Int.mul_add, ← Int.mul_assoc, Int.mul_comm B (B ^ i)]
    omega
/-- The highest place where two numbers differ; places behind an end are noughts. -/
theorem val_lt_at {B : Int} (hB : 0 < B) {xs ys : List Int} {i : Nat} (hx : Dig B xs) (hy : Dig B ys) (h : ∀ j, i < j → getI xs j = getI ys j) (hlt : getI xs i < getI ys i) : val B xs < val B ys := by
  have ext : ∀ (zs : List Int) (n : Nat), zs.length ≤ n → ∃ ws : List Int, ws.length = n ∧ val B ws = val B zs ∧ (∀ j, getI ws j = getI zs j) ∧ (Dig B zs → Dig B ws) := by
    intro zs n hn
    refine ⟨zs ++ List.replicate (n - zs.length) 0, by simp; omega, by rw [val_append, val_replicate]; simp, fun j => ?_, fun hz => hz.append (Dig.replicate _ hB)⟩
    rcases Nat.lt_or_ge j zs.length with hj | hj
    · exact getI_append_left hj
    · rw [getI_append_right hj, getI_replicate0, getI_of_le hj]
  have hi : i < ys.length := by
    rcases Nat.lt_or_ge i ys.length with h' | h'
    · exact h'
    · rw [getI_of_le h'] at hlt; have := hx.all hB i; omega
  obtain ⟨xs', l1, v1, g1, d1⟩ := ext xs (max xs.length ys.length) (by omega)
  obtain ⟨ys', l2, v2, g2, d2⟩ := ext ys (max xs.length ys.length) (by omega)
  rw [← v1, ← v2]
  exact val_lt hB (i := i) (d1 hx) (d2 hy) (by omega) (by omega) (fun j hj _ => by rw [g1, g2]; exact h j hj) (by rw [g1, g2]; exact hlt)
theorem val_eq_all {B : Int} (hB : 0 < B) {xs ys : List Int} (h : ∀ j, getI xs j = getI ys j) : val B xs = val B ys := by
  have : ∀ n, val B (xs.take n) = val B (ys.take n) := by
    intro n
    induction n with
    | zero => simp
    | succ n ih => rw [val_take_succ', val_take_succ', ih, h]
  have := this (xs.length + ys.length)
  rwa [List.take_of_length_le (by omega), List.take_of_length_le (by omega)] at this
theorem val_nonneg {B : Int} (hB : 0 < B) {xs : List Int} (h : Dig B xs) : 0 ≤ val B xs := (val_bound hB h).1
theorem val_lt_pow {B : Int} (hB : 0 < B) {xs : List Int} (h : Dig B xs) {n : Nat} (hn : xs.length ≤ n) : val B xs < B ^ n := by
  have h1 := (val_bound hB h).2
  obtain ⟨d, rfl⟩ := Nat.exists_eq_add_of_le hn
  rw [Int.pow_add]
  have h2 : (1 : Int) ≤ B ^ d := Int.pow_pos hB
  have h3 := Int.mul_le_mul_of_nonneg_left h2 (Int.le_of_lt (pow_pos' hB xs.length))
  omega
theorem val_take_bound {B : Int} (hB : 0 < B) {xs : List Int} (h : Dig B xs) (i : Nat) : 0 ≤ val B (xs.take i) ∧ val B (xs.take i) < B ^ i :=
  ⟨val_nonneg hB (h.take i), val_lt_pow hB (h.take i) (by simp; omega)⟩
theorem bAnd_ffff {a : Int} {k : IntKind} (h0 : 0 ≤ a) (h1 : a < 2 ^ k.bits) (hm : 16 ≤ k.bits) (hs : k.signed = false) : bAnd k a 65535 = a % 65536 := by
  have := bAnd_mask k 16 a h0 h1 hm hs
  simpa using this
theorem bAnd_ffff32 {a : Int} (h0 : 0 ≤ a) (h1 : a < 4294967296) : bAnd .u32 a 65535 = a % 65536 := bAnd_ffff h0 (by simpa [IntKind.bits] using h1) (by decide) rfl
theorem bAnd_ffff64 {a : Int} (h0 : 0 ≤ a) (h1 : a < 18446744073709551616) : bAnd .u64 a 65535 = a % 65536 := bAnd_ffff h0 (by simpa [IntKind.bits] using h1) (by decide) rfl
theorem bAnd_one32 {a : Int} (h0 : 0 ≤ a) (h1 : a < 4294967296) : bAnd .u32 a 1 = a % 2 := by
  have := bAnd_mask .u32 1 a h0 (by simpa [IntKind.bits] using h1) (by decide) rfl
  simpa using this
/-- A bit of a number of parts of 16 bits. -/
theorem bit_of16 {b : List Int} (hw : Dig 65536 b) (i : Nat) : getI b (i / 16) / 2 ^ (i % 16) % 2 = val 65536 b / 2 ^ i % 2 := by
  have hn : getI b (i / 16) = val 65536 b / 65536 ^ (i / 16) % 65536 := by
    rcases Nat.lt_or_ge (i / 16) b.length with hq | hq
    · have := getI_dig (B := 65536) (by decide) (x := val 65536 b) hq
      rwa [dig_val (by decide) hw] at this
    · rw [getI_of_le hq, Int.ediv_eq_zero_of_lt (val_nonneg (by decide) hw) (val_lt_pow (by decide) hw hq)]; rfl
  rw [hn]
  have e : (2 : Int) ^ i = 65536 ^ (i / 16) * 2 ^ (i % 16) := by
    conv => lhs; rw [← Nat.div_add_mod i 16, Int.pow_add, Int.pow_mul]
    rfl
  rw [e, ← Int.ediv_ediv_of_nonneg (Int.le_of_lt (Int.pow_pos (by decide)))]
  generalize val 65536 b / 65536 ^ (i / 16) = y
  have hr : i % 16 < 16 := Nat.mod_lt _ (by decide)
  generalize i % 16 = r at hr
  rcases (by omega : r = 0 ∨ r = 1 ∨ r = 2 ∨ r = 3 ∨ r = 4 ∨ r = 5 ∨ r = 6 ∨ r = 7 ∨ r = 8 ∨ r = 9 ∨ r = 10 ∨ r = 11 ∨ r = 12 ∨ r = 13 ∨ r = 14 ∨ r = 15) with rfl | rfl | rfl | rfl | rfl | rfl | rfl | rfl | rfl | rfl | rfl | rfl | rfl | rfl | rfl | rfl <;> simp <;> omega
theorem dig_zero (B : Int) : ∀ n : Nat, dig B n 0 = List.replicate n 0
  | 0 => rfl
  | n + 1 => by simp [dig, dig_zero B n, List.replicate_succ]
theorem w64_div2 {i : Nat} (hi : i < 9223372036854775808) : IntKind.i64.wrap ((i : Int).tdiv 2) = ((i / 2 : Nat) : Int) := w64_div (k := 2) hi
theorem tmod2 {i : Nat} : (i : Int).tmod 2 = ((i % 2 : Nat) : Int) := tmod_nat (k := 2)
theorem w64_div3 {i : Nat} (hi : i < 9223372036854775808) : IntKind.i64.wrap ((i : Int).tdiv 3) = ((i / 3 : Nat) : Int) := w64_div (k := 3) hi
theorem tmod3 {i : Nat} : (i : Int).tmod 3 = ((i % 3 : Nat) : Int) := tmod_nat (k := 3)
theorem w64_div4 {i : Nat} (hi : i < 9223372036854775808) : IntKind.i64.wrap ((i : Int).tdiv 4) = ((i / 4 : Nat) : Int) := w64_div (k := 4) hi
theorem tmod4 {i : Nat} : (i : Int).tmod 4 = ((i % 4 : Nat) : Int) := tmod_nat (k := 4)
theorem w64_div8 {i : Nat} (hi : i < 9223372036854775808) : IntKind.i64.wrap ((i : Int).tdiv 8) = ((i / 8 : Nat) : Int) := w64_div (k := 8) hi
theorem tmod8 {i : Nat} : (i : Int).tmod 8 = ((i % 8 : Nat) : Int) := tmod_nat (k := 8)
theorem w64_div16 {i : Nat} (hi : i < 9223372036854775808) : IntKind.i64.wrap ((i : Int).tdiv 16) = ((i / 16 : Nat) : Int) := w64_div (k := 16) hi
theorem tmod16 {i : Nat} : (i : Int).tmod 16 = ((i % 16 : Nat) : Int) := tmod_nat (k := 16)
theorem w64_div32 {i : Nat} (hi : i < 9223372036854775808) : IntKind.i64.wrap ((i : Int).tdiv 32) = ((i / 32 : Nat) : Int) := w64_div (k := 32) hi
theorem tmod32 {i : Nat} : (i : Int).tmod 32 = ((i % 32 : Nat) : Int) := tmod_nat (k := 32)
theorem w64_div64 {i : Nat} (hi : i < 9223372036854775808) : IntKind.i64.wrap ((i : Int).tdiv 64) = ((i / 64 : Nat) : Int) := w64_div (k := 64) hi
theorem tmod64 {i : Nat} : (i : Int).tmod 64 = ((i % 64 : Nat) : Int) := tmod_nat (k := 64)
theorem qdd {α : Type} (xs : List α) : sub xs 0 xs.length = xs := sub_zero rfl
theorem qdc (B : Int) (n : Nat) (x : Int) : sub (dig B n x) 0 n = dig B n x := sub_zero (qai B n x)
theorem qde {α : Type} (n : Nat) (x : α) : sub (List.replicate n x) 0 n = List.replicate n x := sub_zero (List.length_replicate ..)
theorem allI_map (k : IntKind) : ∀ xs : List Int, allI k (xs.map (V.int k)) = some xs
  | [] => rfl
  | x :: xs => by simp [allI, allI_map k xs]
theorem agI_ints {k : IntKind} {xs : List Int} (h : xs ≠ []) : agI (xs.map (V.int k)) = .ints k xs := by
  cases xs with
  | nil => exact absurd rfl h
  | cons x xs =>
    have := allI_map k (x :: xs)
    simp only [List.map_cons] at this ⊢
    simp only [agI, this]
end Am
/-
The lemmas that walks use, together.
-/
set_option linter.unusedVariables false
set_option maxRecDepth 10000
namespace Am
theorem evA : type_of% (And.intro @qav (And.intro @qaw (And.intro @qay (And.intro @qax (And.intro @qcw (And.intro @qbh (And.intro @qaz (And.intro @qcp (And.intro @qb1 (And.intro @qcm (And.intro @qb9 (And.intro @qci (And.intro @qcj (And.intro @qb2 (And.intro @qch (And.intro @qcn (And.intro @qb3 (And.intro @qck (And.intro @qcl (And.intro @qb4 (And.intro @qca (And.intro @qb8 (And.intro @qb7 (And.intro @qb6 (And.intro @qb5 (And.intro @qa3 (And.intro @qba (And.intro @qa4 (And.intro @qbb (And.intro @qa5 (And.intro @qbc (And.intro @qa6 (And.intro @qbd (And.intro @qa7 (And.intro @qbe (And.intro @qa8 (And.intro @qbf (And.intro @qa9 (And.intro @qbg (And.intro @qb0 (And.intro @qco (And.intro @z_sData (And.intro @qcs (And.intro @qct (And.intro @qcu (And.intro @qcr (And.intro @qcq (And.intro @qbk (And.intro @qbl (And.intro @qby (And.intro @qbt (And.intro @qbo (And.intro @qbs (And.intro @qbx (And.intro @qbu (And.intro @qbw (And.intro @qbv (And.intro @qbp (And.intro @qbn (And.intro @qbz (And.intro @qbq (And.intro @qbr (And.intro @qbm (And.intro @z_build (And.intro @z_bsl (And.intro @z_fill0 (And.intro @z_fillI (And.intro @z_fillA (And.intro @qe5 (And.intro @qe4 (And.intro @qe0 (And.intro @qe2 (And.intro @qe8 (And.intro @qe7 (And.intro @qe6 (And.intro @qex (And.intro @qey (And.intro @qe3 (And.intro @qc7 (And.intro @qc5 (And.intro @qc6 (And.intro @qfa (And.intro @qfb (And.intro @qfc (And.intro @qe9 (And.intro @qez (And.intro @qek (And.intro @qel (And.intro @qfe (And.intro @qfd (And.intro @qeo (And.intro @qdn (And.intro @qdv (And.intro @qec (And.intro @qed (And.intro @qeu (And.intro @qev (And.intro @qdr (And.intro @qds (And.intro @qdu (And.intro @qdt (And.intro @qd0 (And.intro @qew (And.intro @qdy (And.intro @qeq (And.intro @qdq (And.intro @qei (And.intro @qer (And.intro @qes (And.intro @qet (And.intro @qd4 (And.intro @qd3 (And.intro @qd5 (And.intro @qd6 (And.intro @qd8 (And.intro @qd2 (And.intro @qd9 (And.intro @qeb (And.intro @qea (And.intro @qdo (And.intro @qdp (And.intro @qd1 (And.intro @qau (And.intro @qdz (And.intro @qej (And.intro @qef (And.intro @qdm (And.intro @qem (And.intro @qeg (And.intro @qep (And.intro @qeh (And.intro @qen (And.intro @qcb (And.intro @qcc (And.intro @qcd (And.intro @qce (And.intro @qcf (And.intro @qcg (And.intro @qee (And.intro @qd7 (And.intro @qdg (And.intro @qdf (And.intro @qdh (And.intro @qag (And.intro @qaf @qah))))))))))))))))))))))))))))))))))))))))))))))))))))))))))))))))))))))))))))))))))))))))))))))))))))))))))))))))))))))))))))))))))))))))))))))))) :=
  And.intro @qav (And.intro @qaw (And.intro @qay (And.intro @qax (And.intro @qcw (And.intro @qbh (And.intro @qaz (And.intro @qcp (And.intro @qb1 (And.intro @qcm (And.intro @qb9 (And.intro @qci (And.intro @qcj (And.intro @qb2 (And.intro @qch (And.intro @qcn (And.intro @qb3 (And.intro @qck (And.intro @qcl (And.intro @qb4 (And.intro @qca (And.intro @qb8 (And.intro @qb7 (And.intro @qb6 (And.intro @qb5 (And.intro @qa3 (And.intro @qba (And.intro @qa4 (And.intro @qbb (And.intro @qa5 (And.intro @qbc (And.intro @qa6 (And.intro @qbd (And.intro @qa7 (And.intro @qbe (And.intro @qa8 (And.intro @qbf (And.intro @qa9 (And.intro @qbg (And.intro @qb0 (And.intro @qco (And.intro @z_sData (And.intro @qcs (And.intro @qct (And.intro @qcu (And.intro @qcr (And.intro @qcq (And.intro @qbk (And.intro @qbl (And.intro @qby (And.intro @qbt (And.intro @qbo (And.intro @qbs (And.intro @qbx (And.intro @qbu (And.intro @qbw (And.intro @qbv (And.intro @qbp (And.intro @qbn (And.intro @qbz (And.intro @qbq (And.intro @qbr (And.intro @qbm (And.intro @z_build (And.intro @z_bsl (And.intro @z_fill0 (And.intro @z_fillI (And.intro @z_fillA (And.intro @qe5 (And.intro @qe4 (And.intro @qe0 (And.intro @qe2 (And.intro @qe8 (And.intro @qe7 (And.intro @qe6 (And.intro @qex (And.intro @qey (And.intro @qe3 (And.intro @qc7 (And.intro @qc5 (And.intro @qc6 (And.intro @qfa (And.intro @qfb (And.intro @qfc (And.intro @qe9 (And.intro @qez (And.intro @qek (And.intro @qel (And.intro @qfe (And.intro @qfd (And.intro @qeo (And.intro @qdn (And.intro @qdv (And.intro @qec (And.intro @qed (And.intro @qeu (And.intro @qev (And.intro @qdr (And.intro @qds (And.intro @qdu (And.intro @qdt (And.intro @qd0 (And.intro @qew (And.intro @qdy (And.intro @qeq (And.intro @qdq (And.intro @qei (And.intro @qer (And.intro @qes (And.intro @qet (And.intro @qd4 (And.intro @qd3 (And.intro @qd5 (And.intro @qd6 (And.intro @qd8 (And.intro @qd2 (And.intro @qd9 (And.intro @qeb (And.intro @qea (And.intro @qdo (And.intro @qdp (And.intro @qd1 (And.intro @qau (And.intro @qdz (And.intro @qej (And.intro @qef (And.intro @qdm (And.intro @qem (And.intro @qeg (And.intro @qep (And.intro @qeh (And.intro @qen (And.intro @qcb (And.intro @qcc (And.intro @qcd (And.intro @qce (And.intro @qcf (And.intro @qcg (And.intro @qee (And.intro @qd7 (And.intro @qdg (And.intro @qdf (And.intro @qdh (And.intro @qag (And.intro @qaf @qah))))))))))))))))))))))))))))))))))))))))))))))))))))))))))))))))))))))))))))))))))))))))))))))))))))))))))))))))))))))))))))))))))))))))))))))))
theorem evB : type_of% (And.intro @qda (And.intro @qaa (And.intro @qc8 (And.intro @qc9 (And.intro @qcx (And.intro @qcy (And.intro @qat (And.intro @List.drop_zero.{0} (And.intro @Nat.sub_zero (And.intro @nth_asl (And.intro @look_cons (And.intro @look_nil (And.intro @upd_asl (And.intro @enumV_nil (And.intro @enumV_cons (And.intro @asl_length (And.intro @List.map_cons.{0, 0} (And.intro @List.map_nil.{0, 0} (And.intro @List.zip_cons_cons.{0, 0} (And.intro @List.zip_nil_right.{0, 0} (And.intro @List.zip_nil_left.{0, 0} (And.intro @qas (And.intro @qae (And.intro @qad (And.intro @qac (And.intro @qab (And.intro @qc4 (And.intro @qc3 (And.intro @qdk (And.intro @qdl (And.intro @qdi (And.intro @qdj (And.intro @qc1 (And.intro @qc2 (And.intro @qcz (And.intro @qc0 (And.intro @List.set_cons_zero.{0} (And.intro @List.set_cons_succ.{0} (And.intro @List.length_cons.{0} (And.intro @List.length_nil.{0} (And.intro @List.cons_append.{0} (And.intro @List.nil_append.{0} (And.intro @List.append_nil.{0} (And.intro @List.append_assoc.{0} (And.intro @List.length_append.{0} (And.intro @Nat.zero_add (And.intro @Nat.add_zero (And.intro @Nat.mul_one (And.intro @Int.toNat_natCast (And.intro @Int.cast_ofNat_Int (And.intro @Bool.true_eq_false (And.intro @Bool.false_eq_true (And.intro @Bool.not_true (And.intro @Bool.not_false (And.intro @true_and (And.intro @and_true (And.intro @and_assoc (And.intro @qai (And.intro @sub1 (And.intro @qdd (And.intro @qdc (And.intro @qde (And.intro @List.length_replicate.{0} (And.intro @Nat.le_refl (And.intro @false_implies (And.intro @true_implies (And.intro @ne_eq.{1} (And.intro @not_true_eq_false (And.intro @not_false_eq_true (And.intro @decide_true (And.intro @decide_false (And.intro @decide_eq_true_eq (And.intro @decide_eq_false_iff_not (And.intro @Bool.not_eq_true' @Bool.not_eq_false')))))))))))))))))))))))))))))))))))))))))))))))))))))))))))))))))))))))))) :=
  And.intro @qda (And.intro @qaa (And.intro @qc8 (And.intro @qc9 (And.intro @qcx (And.intro @qcy (And.intro @qat (And.intro @List.drop_zero.{0} (And.intro @Nat.sub_zero (And.intro @nth_asl (And.intro @look_cons (And.intro @look_nil (And.intro @upd_asl (And.intro @enumV_nil (And.intro @enumV_cons (And.intro @asl_length (And.intro @List.map_cons.{0, 0} (And.intro @List.map_nil.{0, 0} (And.intro @List.zip_cons_cons.{0, 0} (And.intro @List.zip_nil_right.{0, 0} (And.intro @List.zip_nil_left.{0, 0} (And.intro @qas (And.intro @qae (And.intro @qad (And.intro @qac (And.intro @qab (And.intro @qc4 (And.intro @qc3 (And.intro @qdk (And.intro @qdl (And.intro @qdi (And.intro @qdj (And.intro @qc1 (And.intro @qc2 (And.intro @qcz (And.intro @qc0 (And.intro @List.set_cons_zero.{0} (And.intro @List.set_cons_succ.{0} (And.intro @List.length_cons.{0} (And.intro @List.length_nil.{0} (And.intro @List.cons_append.{0} (And.intro @List.nil_append.{0} (And.intro @List.append_nil.{0} (And.intro @List.append_assoc.{0} (And.intro @List.length_append.{0} (And.intro @Nat.zero_add (And.intro @Nat.add_zero (And.intro @Nat.mul_one (And.intro @Int.toNat_natCast (And.intro @Int.cast_ofNat_Int (And.intro @Bool.true_eq_false (And.intro @Bool.false_eq_true (And.intro @Bool.not_true (And.intro @Bool.not_false (And.intro @true_and (And.intro @and_true (And.intro @and_assoc (And.intro @qai (And.intro @sub1 (And.intro @qdd (And.intro @qdc (And.intro @qde (And.intro @List.length_replicate.{0} (And.intro @Nat.le_refl (And.intro @false_implies (And.intro @true_implies (And.intro @ne_eq.{1} (And.intro @not_true_eq_false (And.intro @not_false_eq_true (And.intro @decide_true (And.intro @decide_false (And.intro @decide_eq_true_eq (And.intro @decide_eq_false_iff_not (And.intro @Bool.not_eq_true' @Bool.not_eq_false')))))))))))))))))))))))))))))))))))))))))))))))))))))))))))))))))))))))))
end Am
