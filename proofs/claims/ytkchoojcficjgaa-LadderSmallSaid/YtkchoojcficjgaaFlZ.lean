/-
Working texts: contracts of functions, and the numbers behind them.
-/
import Derived.Test.YtkchoojcficjgaaFiJ
import Derived.Test.YtkchoojcficjgaaRgH
set_option linter.unusedSimpArgs false
set_option linter.unusedVariables false
set_option linter.unusedSectionVars false
set_option linter.unusedSimpArgs false
set_option linter.unusedVariables false
set_option maxRecDepth 20000
namespace Am
open Go.Proofs
/-! ### What both sides stand for -/
def kv (k : List Int) : Int := val 256 k % Q255 % Pp
def xo (k : List Int) : List Int := dig 2251799813685248 5 (val 256 k)
theorem xo_el {k : List Int} (h : Key k) : El (xo k) (kv k) := of_el h
theorem plc_lg {k : List Int} (h : Key k) : Lg (plc k) (kv k) := by
  have h0 : 0 ≤ val 256 k % Q255 := Int.emod_nonneg _ (by decide)
  have h1 : val 256 k % Q255 < Q255 := Int.emod_lt_of_pos _ (by decide)
  have := fold_lg (a := dig 65536 16 (val 256 k % Q255)) (dig_dig (by decide) _ _) (by rw [qaj]; decide)
  rw [val_dig (by decide) h0 (Int.lt_trans h1 (by decide))] at this
  exact this
theorem prod_dig {a b : List Int} (ha : Dig 65536 a) (hb : Dig 65536 b) : val 65536 (dig 65536 (a.length + b.length) (val 65536 a * val 65536 b)) = val 65536 a * val 65536 b := by
  have h1 := val_bound (by decide : (0 : Int) < 65536) ha
  have h2 := val_bound (by decide : (0 : Int) < 65536) hb
  refine val_dig (by decide) (Int.mul_nonneg h1.1 h2.1) ?_
  rw [Int.pow_add]
  have hp : (0 : Int) < 65536 ^ a.length := Int.pow_pos (by decide)
  refine Int.lt_of_le_of_lt (Int.mul_le_mul_of_nonneg_left (Int.le_of_lt h2.2) h1.1) ?_
  exact Int.mul_lt_mul_of_pos_right h1.2 (Int.pow_pos (by decide))
theorem rmul_lg {a b : List Int} {x y : Int} (ha : Lg a x) (hb : Lg b y) : Lg (rmul a b) ((x * y) % Pp) := by
  have := fold_lg (a := dig 65536 (a.length + b.length) (val 65536 a * val 65536 b)) (dig_dig (by decide) _ _) (by rw [qaj]; have := ha.len; have := hb.len; omega)
  rw [prod_dig ha.dig hb.dig] at this
  unfold rmul
  rw [ha.is, hb.is] at this ⊢
  exact this
theorem radd_lg {a b : List Int} {x y : Int} (ha : Lg a x) (hb : Lg b y) : Lg (radd a b) ((x + y) % Pp) := by
  have := fold_lg (a := dig 65536 (max a.length b.length + 1) (val 65536 a + val 65536 b)) (dig_dig (by decide) _ _) (by rw [qaj]; have := ha.len; have := hb.len; omega)
  have hv : val 65536 (dig 65536 (max a.length b.length + 1) (val 65536 a + val 65536 b)) = val 65536 a + val 65536 b := by
    have h1 := val_bound (by decide : (0 : Int) < 65536) ha.dig
    have h2 := val_bound (by decide : (0 : Int) < 65536) hb.dig
    have mono : ∀ n, n ≤ max a.length b.length → (65536 : Int) ^ n ≤ 65536 ^ max a.length b.length := fun n hn => by
      have e : (65536 : Int) ^ max a.length b.length = 65536 ^ n * 65536 ^ (max a.length b.length - n) := by rw [← Int.pow_add]; congr 1; omega
      have hp : (0 : Int) < 65536 ^ n := Int.pow_pos (by decide)
      have hq : (0 : Int) < 65536 ^ (max a.length b.length - n) := Int.pow_pos (by decide)
      rw [e]
      have := Int.mul_le_mul_of_nonneg_left (show (1 : Int) ≤ 65536 ^ (max a.length b.length - n) by omega) (Int.le_of_lt hp)
      rwa [Int.mul_one] at this
    have m1 := mono a.length (by omega)
    have m2 := mono b.length (by omega)
    refine val_dig (by decide) (by omega) ?_
    rw [Int.pow_succ]; omega
  rw [hv] at this
  unfold radd
  rw [ha.is, hb.is] at this ⊢
  exact this
theorem rsub_lg {a b : List Int} {x y : Int} (ha : Lg a x) (hb : Lg b y) : Lg (rsub a b) ((x - y) % Pp) := by
  have := fold_lg (a := dig 65536 (max a.length 16 + 1) (val 65536 a + Pp - val 65536 b)) (dig_dig (by decide) _ _) (by rw [qaj]; have := ha.len; omega)
  have hv : val 65536 (dig 65536 (max a.length 16 + 1) (val 65536 a + Pp - val 65536 b)) = val 65536 a + Pp - val 65536 b := by
    have h1 := sum_val ha.dig
    have h2 := (val_bound (by decide : (0 : Int) < 65536) (dig_dig (B := 65536) (by decide) (max a.length 16 + 1) (val 65536 a + Pp))).2
    rw [h1, qaj] at h2
    have h3 := ha.is; have h4 := hb.is; have h5 := ha.lo; have h6 := hb.lo; have h7 := hb.hi
    exact val_dig (by decide) (by omega) (by omega)
  have e : (x + Pp - y) % Pp = (x - y) % Pp := by rw [show x + Pp - y = x - y + 1 * Pp by omega, Int.add_mul_emod_self_right]
  rw [hv] at this
  unfold rsub
  rw [ha.is, hb.is] at this ⊢
  rw [e] at this
  exact this
theorem num_lg {n : Int} (h0 : 0 ≤ n) (h1 : n < 4294967296) : Lg (dig 65536 2 n) n :=
  ⟨dig_dig (by decide) _ _, by rw [qaj]; decide, val_dig (by decide) h0 (Int.lt_of_lt_of_le h1 (by decide)), h0, Int.lt_of_lt_of_le h1 (by decide)⟩
/-- Powers of numbers, bit by bit. -/
def pwv (x V : Int) : Nat → Int → Int
  | 0, acc => acc
  | n + 1, acc => pwv x V n (if V / 2 ^ n % 2 = 1 then acc * acc % Pp * x % Pp else acc * acc % Pp)
theorem pwr_el {xs : List Int} {x V : Int} (hx : El xs x) : ∀ (n : Nat) {acc : List Int} {c : Int}, El acc c → El (pwr xs V n acc) (pwv x V n c)
  | 0, _, _, h => h
  | n + 1, acc, c, h => by
    refine pwr_el hx n ?_
    unfold pwst; split
    · exact mul_el (mul_el h h) hx
    · exact mul_el h h
theorem rpw_lg {a : List Int} {x V : Int} (ha : Lg a x) : ∀ (n : Nat) {acc : List Int} {c : Int}, Lg acc c → Lg (rpw a V n acc) (pwv x V n c)
  | 0, _, _, h => h
  | n + 1, acc, c, h => by
    refine rpw_lg ha n ?_
    unfold rpst; split
    · exact rmul_lg (rmul_lg h h) ha
    · exact rmul_lg h h
def pw (x V : Int) : Int := pwv x V 256 1
theorem pow_el {xs : List Int} {x : Int} (V : Int) (hx : El xs x) : El (powF xs V) (pw x V) := pwr_el hx 256 (small_el (n := 1) (by decide) (by decide))
theorem rpow_lg {a : List Int} {x : Int} (V : Int) (ha : Lg a x) : Lg (rpow a 256 V) (pw x V) := rpw_lg ha 256 (num_lg (n := 1) (by decide) (by decide))
theorem inv_el {xs : List Int} {x : Int} (hx : El xs x) : El (invF xs) (pw x (Pp - 2)) := pow_el _ hx
theorem over_lg {a : List Int} {x : Int} (ha : Lg a x) : Lg (over a) (pw x (Pp - 2)) := rpow_lg _ ha
/-! ### Preconditions -/
theorem El.p1 {xs : List Int} {x : Int} (h : El xs x) : preE1 [.v (.ints .u64 xs)] := ⟨_, rfl, h.1⟩
theorem El.p2 {xs ys : List Int} {x y : Int} (h : El xs x) (h' : El ys y) : preEE [.v (.ints .u64 xs), .v (.ints .u64 ys)] := ⟨_, _, rfl, h.1, h'.1⟩
theorem El.pk {xs k : List Int} {x : Int} (h : El xs x) (h' : Key k) : preEK [.v (.ints .u64 xs), .v (.ints .u8 k)] := ⟨_, _, rfl, h.1, h'⟩
theorem Lg.p2 {a b : List Int} {x y : Int} (h : Lg a x) (h' : Lg b y) : preLL [.s .u32 a, .s .u32 b] := pre_ll h.sh h'.sh
theorem Lg.pk {a : List Int} {x : Int} (h : Lg a x) : pre30 [.s .u32 a] := ⟨_, rfl, h.dig⟩
theorem Key.p1 {k : List Int} (h : Key k) : preKey1 [.v (.ints .u8 k)] := ⟨_, rfl, h⟩
theorem Key.p {k : List Int} (h : Key k) : preKey [.v (.ints .u8 k)] := ⟨_, rfl, h⟩
theorem zero_iff {x : Int} (h0 : 0 ≤ x) (h1 : x < Pp) : dig 256 32 x = List.replicate 32 0 ↔ x = 0 := by
  constructor
  · intro h
    have := congrArg (val 256) h
    rw [val_dig (by decide) h0 (Int.lt_trans h1 (by decide)), val_replicate] at this
    exact this
  · intro h; rw [h, dig_zero]
theorem dig_inj {x y : Int} (h0 : 0 ≤ x) (h1 : x < Pp) (h2 : 0 ≤ y) (h3 : y < Pp) : dig 256 32 x = dig 256 32 y ↔ x = y := by
  constructor
  · intro h
    have := congrArg (val 256) h
    rwa [val_dig (by decide) h0 (Int.lt_trans h1 (by decide)), val_dig (by decide) h2 (Int.lt_trans h3 (by decide))] at this
  · intro h; rw [h]
def FTrue : List D → Out
  | _ => .one (.v (.bool true))
def preKK (ds : List D) : Prop := ∃ a b : List Int, ds = [.v (.ints .u8 a), .v (.ints .u8 b)] ∧ Key a ∧ Key b
theorem xor128 {x : Int} (h : 0 ≤ x ∧ x < 256) : 0 ≤ bXor .u8 x 128 ∧ bXor .u8 x 128 < 256 ∧ bXor .u8 x 128 % 128 = x % 128 := by
  have hb : 0 ≤ bXor .u8 x 128 ∧ bXor .u8 x 128 < 256 := by unfold bXor; rw [wrap_u8]; omega
  refine ⟨hb.1, hb.2, ?_⟩
  have key : ∀ n : Nat, n < 256 → bXor .u8 (n : Int) 128 % 128 = (n : Int) % 128 := by decide +kernel
  obtain ⟨n, rfl⟩ := Int.eq_ofNat_of_zero_le h.1
  exact key n (by omega)
theorem kv_low {a : List Int} {v : Int} (h : Key a) (hv : 0 ≤ v ∧ v < 256) (hm : v % 128 = getI a 31 % 128) : Key (a.set 31 v) ∧ kv (a.set 31 v) = kv a := by
  have hk : Key (a.set 31 v) := ⟨by simp [h.1], h.2.set _ hv.1 hv.2⟩
  refine ⟨hk, ?_⟩
  have h1 := (key_low h).2
  have h2 := (key_low hk).2
  have e : (a.set 31 v).set 31 (getI (a.set 31 v) 31 % 128) = a.set 31 (getI a 31 % 128) := by
    rw [List.set_set, getI_set _ _ _ _ (by rw [h.1]; decide), if_pos rfl, hm]
  rw [e, h1] at h2
  unfold kv
  rw [h2]
end Am
