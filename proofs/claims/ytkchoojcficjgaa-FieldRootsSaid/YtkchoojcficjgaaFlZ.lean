/-
Working texts: contracts of functions, and the numbers behind them.
-/
import Derived.Test.YtkchoojcficjgaaFiJ
import Derived.Test.YtkchoojcficjgaaRgH
import Derived.Test.YtkchoojcficjgaaAmNum
set_option linter.unusedSimpArgs false
set_option linter.unusedVariables false
set_option linter.unusedSectionVars false
set_option linter.unusedSimpArgs false
set_option linter.unusedVariables false
set_option maxRecDepth 20000
namespace Am
open Go.Proofs
/-! ### What both sides stand for -/
def kv (k : List Int) : Int := val 256 k % Q255 % Pp
def xo (k : List Int) : List Int := dig 2251799813685248 5 (val 256 k)
theorem xo_el {k : List Int} (h : Key k) : El (xo k) (kv k) := of_el h
theorem plc_lg {k : List Int} (h : Key k) : Lg (plc k) (kv k) := by
  have h0 : 0 ≤ val 256 k % Q255 := Int.emod_nonneg _ (by decide)
  have h1 : val 256 k % Q255 < Q255 := Int.emod_lt_of_pos _ (by decide)
  have := fold_lg (a := dig 65536 16 (val 256 k % Q255)) (dig_dig (by decide) _ _) (by rw [qaj]; decide)
  rw [val_dig (by decide) h0 (Int.lt_trans h1 (by decide))] at this
  exact this
theorem prod_dig {a b : List Int} (ha : Dig 65536 a) (hb : Dig 65536 b) : val 65536 (dig 65536 (a.length + b.length) (val 65536 a * val 65536 b)) = val 65536 a * val 65536 b := by
  have h1 := val_bound (by decide : (0 : Int) < 65536) ha
  have h2 := val_bound (by decide : (0 : Int) < 65536) hb
  refine val_dig (by decide) (Int.mul_nonneg h1.1 h2.1) ?_
  rw [Int.pow_add]
  have hp : (0 : Int) < 65536 ^ a.length := Int.pow_pos (by decide)
  refine Int.lt_of_le_of_lt (Int.mul_le_mul_of_nonneg_left (Int.le_of_lt h2.2) h1.1) ?_
  exact Int.mul_lt_mul_of_pos_right h1.2 (Int.pow_pos (by decide))
theorem rmul_lg {a b : List Int} {x y : Int} (ha : Lg a x) (hb : Lg b y) : Lg (rmul a b) ((x * y) % Pp) := by
  have := fold_lg (a := dig 65536 (a.length + b.length) (val 65536 a * val 65536 b)) (dig_dig (by decide) _ _) (by rw [qaj]; have := ha.len; have := hb.len; omega)
  rw [prod_dig ha.dig hb.dig] at this
  unfold rmul
  rw [ha.is, hb.is] at this ⊢
  exact this
theorem radd_lg {a b : List Int} {x y : Int} (ha : Lg a x) (hb : Lg b y) : Lg (radd a b) ((x + y) % Pp) := by
  have := fold_lg (a := dig 65536 (max a.length b.length + 1) (val 65536 a + val 65536 b)) (dig_dig (by decide) _ _) (by rw [qaj]; have := ha.len; have := hb.len; omega)
  have hv : val 65536 (dig 65536 (max a.length b.length + 1) (val 65536 a + val 65536 b)) = val 65536 a + val 65536 b := by
    have h1 := val_bound (by decide : (0 : Int) < 65536) ha.dig
    have h2 := val_bound (by decide : (0 : Int) < 65536) hb.dig
    have mono : ∀ n, n ≤ max a.length b.length → (65536 : Int) ^ n ≤ 65536 ^ max a.length b.length := fun n hn => by
      have e : (65536 : Int) ^ max a.length b.length = 65536 ^ n * 65536 ^ (max a.length b.length - n) := by rw [← Int.pow_add]; congr 1; omega
      have hp : (0 : Int) < 65536 ^ n := Int.pow_pos (by decide)
      have hq : (0 : Int) < 65536 ^ (max a.length b.length - n) := Int.pow_pos (by decide)
      rw [e]
      have := Int.mul_le_mul_of_nonneg_left (show (1 : Int) ≤ 65536 ^ (max a.length b.length - n) by omega) (Int.le_of_lt hp)
      rwa [Int.mul_one] at this
    have m1 := mono a.length (by omega)
    have m2 := mono b.length (by omega)
    refine val_dig (by decide) (by omega) ?_
    rw [Int.pow_succ]; omega
  rw [hv] at this
  unfold radd
  rw [ha.is, hb.is] at this ⊢
  exact this
theorem rsub_lg {a b : List Int} {x y : Int} (ha : Lg a x) (hb : Lg b y) : Lg (rsub a b) ((x - y) % Pp) := by
  have := fold_lg (a := dig 65536 (max a.length 16 + 1) (val 65536 a + Pp - val 65536 b)) (dig_dig (by decide) _ _) (by rw [qaj]; have := ha.len; omega)
  have hv : val 65536 (dig 65536 (max a.length 16 + 1) (val 65536 a + Pp - val 65536 b)) = val 65536 a + Pp - val 65536 b := by
    have h1 := sum_val ha.dig
    have h2 := (val_bound (by decide : (0 : Int) < 65536) (dig_dig (B := 65536) (by decide) (max a.length 16 + 1) (val 65536 a + Pp))).2
    rw [h1, qaj] at h2
    have h3 := ha.is; have h4 := hb.is; have h5 := ha.lo; have h6 := hb.lo; have h7 := hb.hi
    exact val_dig (by decide) (by omega) (by omega)
  have e : (x + Pp - y) % Pp = (x - y) % Pp := by rw [show x + Pp - y = x - y + 1 * Pp by omega, Int.add_mul_emod_self_right]
  rw [hv] at this
  unfold rsub
  rw [ha.is, hb.is] at this ⊢
  rw [e] at this
  exact this
theorem num_lg {n : Int} (h0 : 0 ≤ n) (h1 : n < 4294967296) : Lg (dig 65536 2 n) n :=
  ⟨dig_dig (by decide) _ _, by rw [qaj]; decide, val_dig (by decide) h0 (Int.lt_of_lt_of_le h1 (by decide)), h0, Int.lt_of_lt_of_le h1 (by decide)⟩
/-- Powers of numbers, bit by bit. -/
def pwv (x V : Int) : Nat → Int → Int
  | 0, acc => acc
  | n + 1, acc => pwv x V n (if V / 2 ^ n % 2 = 1 then acc * acc % Pp * x % Pp else acc * acc % Pp)
theorem pwr_el {xs : List Int} {x V : Int} (hx : El xs x) : ∀ (n : Nat) {acc : List Int} {c : Int}, El acc c → El (pwr xs V n acc) (pwv x V n c)
  | 0, _, _, h => h
  | n + 1, acc, c, h => by
    refine pwr_el hx n ?_
    unfold pwst; split
    · exact mul_el (mul_el h h) hx
    · exact mul_el h h
theorem rpw_lg {a : List Int} {x V : Int} (ha : Lg a x) : ∀ (n : Nat) {acc : List Int} {c : Int}, Lg acc c → Lg (rpw a V n acc) (pwv x V n c)
  | 0, _, _, h => h
  | n + 1, acc, c, h => by
    refine rpw_lg ha n ?_
    unfold rpst; split
    · exact rmul_lg (rmul_lg h h) ha
    · exact rmul_lg h h
def pw (x V : Int) : Int := pwv x V 256 1
theorem pow_el {xs : List Int} {x : Int} (V : Int) (hx : El xs x) : El (powF xs V) (pw x V) := pwr_el hx 256 (small_el (n := 1) (by decide) (by decide))
theorem rpow_lg {a : List Int} {x : Int} (V : Int) (ha : Lg a x) : Lg (rpow a 256 V) (pw x V) := rpw_lg ha 256 (num_lg (n := 1) (by decide) (by decide))
theorem inv_el {xs : List Int} {x : Int} (hx : El xs x) : El (invF xs) (pw x (Pp - 2)) := pow_el _ hx
theorem over_lg {a : List Int} {x : Int} (ha : Lg a x) : Lg (over a) (pw x (Pp - 2)) := rpow_lg _ ha
/-! ### Preconditions -/
theorem El.p1 {xs : List Int} {x : Int} (h : El xs x) : preE1 [.v (.ints .u64 xs)] := ⟨_, rfl, h.1⟩
theorem El.p2 {xs ys : List Int} {x y : Int} (h : El xs x) (h' : El ys y) : preEE [.v (.ints .u64 xs), .v (.ints .u64 ys)] := ⟨_, _, rfl, h.1, h'.1⟩
theorem El.pk {xs k : List Int} {x : Int} (h : El xs x) (h' : Key k) : preEK [.v (.ints .u64 xs), .v (.ints .u8 k)] := ⟨_, _, rfl, h.1, h'⟩
theorem Lg.p2 {a b : List Int} {x y : Int} (h : Lg a x) (h' : Lg b y) : preLL [.s .u32 a, .s .u32 b] := pre_ll h.sh h'.sh
theorem Lg.pk {a : List Int} {x : Int} (h : Lg a x) : pre30 [.s .u32 a] := ⟨_, rfl, h.dig⟩
theorem Key.p1 {k : List Int} (h : Key k) : preKey1 [.v (.ints .u8 k)] := ⟨_, rfl, h⟩
theorem Key.p {k : List Int} (h : Key k) : preKey [.v (.ints .u8 k)] := ⟨_, rfl, h⟩
theorem zero_iff {x : Int} (h0 : 0 ≤ x) (h1 : x < Pp) : dig 256 32 x = List.replicate 32 0 ↔ x = 0 := by
  constructor
  · intro h
    have := congrArg (val 256) h
    rw [val_dig (by decide) h0 (Int.lt_trans h1 (by decide)), val_replicate] at this
    exact this
  · intro h; rw [h, dig_zero]
theorem dig_inj {x y : Int} (h0 : 0 ≤ x) (h1 : x < Pp) (h2 : 0 ≤ y) (h3 : y < Pp) : dig 256 32 x = dig 256 32 y ↔ x = y := by
  constructor
  · intro h
    have := congrArg (val 256) h
    rwa [val_dig (by decide) h0 (Int.lt_trans h1 (by decide)), val_dig (by decide) h2 (Int.lt_trans h3 (by decide))] at this
  · intro h; rw [h]
def FTrue : List D → Out
  | _ => .one (.v (.bool true))
def preKK (ds : List D) : Prop := ∃ a b : List Int, ds = [.v (.ints .u8 a), .v (.ints .u8 b)] ∧ Key a ∧ Key b
theorem xor128 {x : Int} (h : 0 ≤ x ∧ x < 256) : 0 ≤ bXor .u8 x 128 ∧ bXor .u8 x 128 < 256 ∧ bXor .u8 x 128 % 128 = x % 128 := by
  have hb : 0 ≤ bXor .u8 x 128 ∧ bXor .u8 x 128 < 256 := by unfold bXor; rw [wrap_u8]; omega
  refine ⟨hb.1, hb.2, ?_⟩
  have key : ∀ n : Nat, n < 256 → bXor .u8 (n : Int) 128 % 128 = (n : Int) % 128 := by decide +kernel
  obtain ⟨n, rfl⟩ := Int.eq_ofNat_of_zero_le h.1
  exact key n (by omega)
theorem kv_low {a : List Int} {v : Int} (h : Key a) (hv : 0 ≤ v ∧ v < 256) (hm : v % 128 = getI a 31 % 128) : Key (a.set 31 v) ∧ kv (a.set 31 v) = kv a := by
  have hk : Key (a.set 31 v) := ⟨by simp [h.1], h.2.set _ hv.1 hv.2⟩
  refine ⟨hk, ?_⟩
  have h1 := (key_low h).2
  have h2 := (key_low hk).2
  have e : (a.set 31 v).set 31 (getI (a.set 31 v) 31 % 128) = a.set 31 (getI a 31 % 128) := by
    rw [List.set_set, getI_set _ _ _ _ (by rw [h.1]; decide), if_pos rfl, hm]
  rw [e, h1] at h2
  unfold kv
  rw [h2]
/-! ### Powers as powers -/
theorem pow_mod_mul {x a b : Int} {i j : Nat} (ha : a = x ^ i % Pp) (hb : b = x ^ j % Pp) : a * b % Pp = x ^ (i + j) % Pp := by
  rw [ha, hb, ← Int.mul_emod, ← Int.pow_add]
theorem pwv_pow {x : Int} {V : Nat} : ∀ (n : Nat), pwv (x % Pp) (V : Int) n (x ^ (V / 2 ^ n) % Pp) = x ^ V % Pp
  | 0 => by rw [pwv]; simp
  | n + 1 => by
    have e : V / 2 ^ n = V / 2 ^ (n + 1) * 2 + V / 2 ^ n % 2 := by
      have : V / 2 ^ (n + 1) = V / 2 ^ n / 2 := by rw [Nat.pow_succ, Nat.div_div_eq_div_mul]
      rw [this]; omega
    have hb : ((V : Int) / 2 ^ n % 2 = 1) ↔ V / 2 ^ n % 2 = 1 := by
      have : (V : Int) / 2 ^ n % 2 = ((V / 2 ^ n % 2 : Nat) : Int) := by
        rw [Int.natCast_emod, Int.natCast_ediv, Int.natCast_pow]; rfl
      rw [this]; omega
    rw [pwv]
    have hs := pow_mod_mul (x := x) (i := V / 2 ^ (n + 1)) (j := V / 2 ^ (n + 1)) rfl rfl
    rw [hs]
    by_cases h : V / 2 ^ n % 2 = 1
    · rw [if_pos (hb.2 h)]
      have h1 : x % Pp = x ^ 1 % Pp := by rw [Int.pow_one]
      conv => lhs; arg 4; rw [h1]
      rw [← Int.mul_emod, ← Int.pow_add]
      have e2 : V / 2 ^ (n + 1) + V / 2 ^ (n + 1) + 1 = V / 2 ^ n := by omega
      rw [e2]
      exact pwv_pow n
    · rw [if_neg (fun q => h (hb.1 q))]
      have e2 : V / 2 ^ (n + 1) + V / 2 ^ (n + 1) = V / 2 ^ n := by omega
      rw [e2]
      exact pwv_pow n
theorem pw_pow {x : Int} {V : Nat} (h0 : 0 ≤ x) (h1 : x < Pp) (hV : V < 2 ^ 256) : pw x (V : Int) = x ^ V % Pp := by
  have := pwv_pow (x := x) (V := V) 256
  rw [Nat.div_eq_of_lt hV, Int.pow_zero, Int.emod_eq_of_lt h0 h1] at this
  exact this
end Am
set_option linter.unusedSimpArgs false
set_option linter.unusedVariables false
set_option maxRecDepth 20000
namespace Am
/-! ### Primes, by roots whose powers are all that is below them -/
def Prm (n : Nat) : Prop := 1 < n ∧ ∀ d, d ∣ n → d = 1 ∨ d = n
def td (n : Nat) : Nat → Nat → Bool
  | 0, _ => false
  | f + 1, d => if n < d * d then true else if n % d = 0 then false else td n f (d + 1)
theorem td_ok {n : Nat} : ∀ (f d : Nat), td n f d = true → ∀ e, d ≤ e → e * e ≤ n → ¬ e ∣ n
  | 0, _, h, _, _, _ => by simp [td] at h
  | f + 1, d, h, e, he, hn => by
    unfold td at h
    split at h
    · rename_i hd
      have := Nat.mul_le_mul he he
      omega
    · split at h
      · simp at h
      · rename_i hd
        rcases Nat.eq_or_lt_of_le he with rfl | hlt
        · intro hdvd; exact hd (Nat.mod_eq_zero_of_dvd hdvd)
        · exact td_ok f (d + 1) h e hlt hn
theorem prm_td {n f : Nat} (h1 : 1 < n) (h : td n f 2 = true) : Prm n := by
  refine ⟨h1, fun d hd => ?_⟩
  obtain ⟨e, he⟩ := hd
  have hd0 : 0 < d := Nat.pos_of_ne_zero fun h0 => by subst h0; simp at he; omega
  have he0 : 0 < e := Nat.pos_of_ne_zero fun h0 => by subst h0; simp at he; omega
  by_cases hd1 : d = 1
  · exact .inl hd1
  by_cases he1 : e = 1
  · right; rw [he, he1, Nat.mul_one]
  exfalso
  rcases Nat.le_total d e with hle | hle
  · have : d * d ≤ n := by rw [he]; exact Nat.mul_le_mul_left d hle
    exact td_ok f 2 h d (by omega) this ⟨e, he⟩
  · have : e * e ≤ n := by rw [he]; exact Nat.mul_le_mul_right e hle
    exact td_ok f 2 h e (by omega) this ⟨d, by rw [he, Nat.mul_comm]⟩
/-- A prime of a list divides whatever divides the list's product, but 1. -/
theorem prod_div : ∀ {fs : List Nat}, (∀ q ∈ fs, Prm q) → ∀ m, m ∣ fs.foldr (· * ·) 1 → m ≠ 1 → ∃ q ∈ fs, q ∣ m
  | [], _, m, hm, h1 => absurd (Nat.dvd_one.1 hm) h1
  | q :: fs, h, m, hm, h1 => by
    by_cases hq : q ∣ m
    · exact ⟨q, List.mem_cons_self, hq⟩
    · have hg : Nat.gcd m q = 1 := by
        rcases (h q List.mem_cons_self).2 _ (Nat.gcd_dvd_right m q) with h2 | h2
        · exact h2
        · exact absurd (h2 ▸ Nat.gcd_dvd_left m q) hq
      have hm' : m ∣ fs.foldr (· * ·) 1 := Nat.Coprime.dvd_of_dvd_mul_left hg hm
      obtain ⟨p, hp, hd⟩ := prod_div (fun q hq => h q (List.mem_cons_of_mem _ hq)) m hm' h1
      exact ⟨p, List.mem_cons_of_mem _ hp, hd⟩
/-- A power, bit by bit. -/
def pwn (m x V : Nat) : Nat → Nat → Nat
  | 0, acc => acc
  | n + 1, acc => pwn m x V n (if V / 2 ^ n % 2 = 1 then acc * acc % m * x % m else acc * acc % m)
theorem pwn_pow {m x V : Nat} : ∀ (n : Nat), pwn m (x % m) V n (x ^ (V / 2 ^ n) % m) = x ^ V % m
  | 0 => by rw [pwn]; simp
  | n + 1 => by
    have e : V / 2 ^ n = V / 2 ^ (n + 1) * 2 + V / 2 ^ n % 2 := by
      have : V / 2 ^ (n + 1) = V / 2 ^ n / 2 := by rw [Nat.pow_succ, Nat.div_div_eq_div_mul]
      rw [this]; omega
    have hs : x ^ (V / 2 ^ (n + 1)) % m * (x ^ (V / 2 ^ (n + 1)) % m) % m = x ^ (V / 2 ^ (n + 1) + V / 2 ^ (n + 1)) % m := by rw [← Nat.mul_mod, ← Nat.pow_add]
    rw [pwn, hs]
    by_cases h : V / 2 ^ n % 2 = 1
    · rw [if_pos h]
      have h1 : x % m = x ^ 1 % m := by rw [Nat.pow_one]
      conv => lhs; arg 5; rw [h1]
      rw [← Nat.mul_mod, ← Nat.pow_add]
      have e2 : V / 2 ^ (n + 1) + V / 2 ^ (n + 1) + 1 = V / 2 ^ n := by omega
      rw [e2]
      exact pwn_pow n
    · rw [if_neg h]
      have e2 : V / 2 ^ (n + 1) + V / 2 ^ (n + 1) = V / 2 ^ n := by omega
      rw [e2]
      exact pwn_pow n
theorem pwn_all {m x V e : Nat} (hV : V / 2 ^ e = 0) : pwn m (x % m) V e (1 % m) = x ^ V % m := by
  have := pwn_pow (m := m) (x := x) (V := V) e
  rwa [hV, Nat.pow_zero] at this
/-- What is one-to-one within a row is onto. -/
theorem php : ∀ (n : Nat) (f : Nat → Nat), (∀ i, i < n → f i < n) → (∀ i j, i < n → j < n → f i = f j → i = j) → ∀ y, y < n → ∃ i, i < n ∧ f i = y
  | 0, _, _, _, y, hy => by omega
  | n + 1, f, hf, hi, y, hy => by
    by_cases hyn : y = f n
    · exact ⟨n, by omega, hyn.symm⟩
    let f' : Nat → Nat := fun i => if f i = n then f n else f i
    have hlt : ∀ i, i < n → f' i < n := by
      intro i hin
      show (if f i = n then f n else f i) < n
      have h1 := hf i (by omega)
      have h2 := hf n (by omega)
      split
      · rename_i h
        have : f n ≠ n := fun e => by have := hi i n (by omega) (by omega) (by rw [h, e]); omega
        omega
      · omega
    have hinj : ∀ i j, i < n → j < n → f' i = f' j → i = j := by
      intro i j hin hjn he
      change (if f i = n then f n else f i) = (if f j = n then f n else f j) at he
      split at he
      · rename_i h1
        split at he
        · rename_i h2; exact hi i j (by omega) (by omega) (by rw [h1, h2])
        · have := hi n j (by omega) (by omega) he; omega
      · split at he
        · have := hi i n (by omega) (by omega) he; omega
        · exact hi i j (by omega) (by omega) he
    by_cases hyN : y = n
    · -- the last one stands elsewhere
      by_cases hfn : f n = n
      · exact absurd (hyN.trans hfn.symm) hyn
      obtain ⟨i, hin, he⟩ := php n f' hlt hinj (f n) (by have := hf n (by omega); omega)
      refine ⟨i, by omega, ?_⟩
      change (if f i = n then f n else f i) = f n at he
      split at he
      · rename_i h; rw [h, hyN]
      · have := hi i n (by omega) (by omega) he; omega
    · obtain ⟨i, hin, he⟩ := php n f' hlt hinj y (by omega)
      refine ⟨i, by omega, ?_⟩
      change (if f i = n then f n else f i) = y at he
      split at he
      · exact absurd he.symm hyn
      · exact he
section
variable {n g : Nat} {fs : List Nat}
theorem no_small (hn : 1 < n) (hfs : ∀ q ∈ fs, Prm q) (hprod : fs.foldr (· * ·) 1 = n - 1) (h1 : g ^ (n - 1) % n = 1) (h2 : ∀ q ∈ fs, g ^ ((n - 1) / q) % n ≠ 1) :
    ∀ k, 0 < k → k < n - 1 → g ^ k % n = 1 → False := by
  intro k
  induction k using Nat.strongRecOn with
  | ind k ih =>
    intro hk0 hk1 hgk
    have hpow : ∀ q, g ^ (k * q) % n = 1 := fun q => by
      rw [Nat.pow_mul, Nat.pow_mod, hgk, Nat.one_pow, Nat.mod_eq_of_lt hn]
    have hdm := Nat.div_add_mod (n - 1) k
    have hr : g ^ ((n - 1) % k) % n = 1 := by
      have : g ^ (n - 1) % n = g ^ ((n - 1) % k) % n := by
        conv => lhs; rw [← hdm, Nat.pow_add, Nat.mul_mod, hpow, Nat.one_mul, Nat.mod_mod]
      rw [← this]; exact h1
    have hlt := Nat.mod_lt (n - 1) hk0
    by_cases h0 : (n - 1) % k = 0
    · -- k divides n - 1
      have hkm : k * ((n - 1) / k) = n - 1 := by omega
      have hm1 : (n - 1) / k ≠ 1 := fun e => by rw [e] at hkm; omega
      obtain ⟨q, hq, m', hm'⟩ := prod_div hfs ((n - 1) / k) (by rw [hprod]; exact ⟨k, by rw [Nat.mul_comm]; exact hkm.symm⟩) hm1
      refine h2 q hq ?_
      have hq0 : 0 < q := by have := (hfs q hq).1; omega
      have : (n - 1) / q = k * m' := by
        rw [← hkm, hm', ← Nat.mul_assoc, Nat.mul_comm k q, Nat.mul_assoc, Nat.mul_div_cancel_left _ hq0]
      rw [this]; exact hpow m'
    · exact ih _ hlt (by omega) (by omega) hr
theorem pratt {e : Nat} (hn : 1 < n) (hfs : ∀ q ∈ fs, Prm q) (hprod : fs.foldr (· * ·) 1 = n - 1) (he : (n - 1) / 2 ^ e = 0) (h1 : pwn n (g % n) (n - 1) e (1 % n) = 1)
    (h2 : (fs.all fun q => decide ((n - 1) / q / 2 ^ e = 0) && decide (pwn n (g % n) ((n - 1) / q) e (1 % n) ≠ 1)) = true) : Prm n ∧ ∀ x, 0 < x → x < n → x ^ (n - 1) % n = 1 := by
  rw [pwn_all he] at h1
  have h2' : ∀ q ∈ fs, g ^ ((n - 1) / q) % n ≠ 1 := fun q hq => by
    have := List.all_eq_true.1 h2 q hq
    simp only [Bool.and_eq_true, decide_eq_true_eq] at this
    rw [← pwn_all this.1]; exact this.2
  have hns := no_small hn hfs hprod h1 h2'
  have hpos : ∀ i, i < n - 1 → 0 < g ^ i % n := fun i hi => by
    apply Nat.pos_of_ne_zero
    intro h0
    have : g ^ (n - 1) % n = 0 := by
      rw [show n - 1 = i + (n - 1 - i) by omega, Nat.pow_add, Nat.mul_mod, h0, Nat.zero_mul, Nat.zero_mod]
    omega
  have hinj : ∀ i j, i ≤ j → j < n - 1 → g ^ i % n = g ^ j % n → i = j := fun i j hij hj he => by
    rcases Nat.eq_or_lt_of_le hij with h | h
    · exact h
    exfalso
    refine hns (j - i) (by omega) (by omega) ?_
    have e1 : g ^ (n - 1 - i) * g ^ i % n = 1 := by rw [← Nat.pow_add, show n - 1 - i + i = n - 1 by omega]; exact h1
    have e2 : g ^ (n - 1 - i) * g ^ j % n = 1 := by rw [Nat.mul_mod, ← he, ← Nat.mul_mod]; exact e1
    rw [← Nat.pow_add, show n - 1 - i + j = (n - 1) + (j - i) by omega, Nat.pow_add, Nat.mul_mod, h1, Nat.one_mul, Nat.mod_mod] at e2
    exact e2
  have hsurj : ∀ x, 0 < x → x < n → ∃ i, i < n - 1 ∧ g ^ i % n = x := fun x hx0 hx1 => by
    obtain ⟨i, hi, he⟩ := php (n - 1) (fun i => g ^ i % n - 1) (fun i hi => by have := Nat.mod_lt (g ^ i) (show 0 < n by omega); have := hpos i hi; show g ^ i % n - 1 < n - 1; omega)
      (fun i j hi hj he => by
        have hi0 := hpos i hi
        have hj0 := hpos j hj
        have he' : g ^ i % n = g ^ j % n := by
          have : g ^ i % n - 1 = g ^ j % n - 1 := he
          omega
        rcases Nat.le_total i j with h | h
        · exact hinj i j h hj he'
        · exact (hinj j i h hi he'.symm).symm) (x - 1) (by omega)
    refine ⟨i, hi, ?_⟩
    have : g ^ i % n - 1 = x - 1 := he
    have := hpos i hi
    omega
  refine ⟨⟨hn, fun d hd => ?_⟩, fun x hx0 hx1 => ?_⟩
  · have hd0 : 0 < d := Nat.pos_of_dvd_of_pos hd (by omega)
    have hdn := Nat.le_of_dvd (by omega) hd
    rcases Nat.eq_or_lt_of_le hdn with h | h
    · exact .inr h
    · left
      obtain ⟨i, hi, he⟩ := hsurj d hd0 h
      have e1 : d * g ^ (n - 1 - i) % n = 1 := by
        rw [← he, Nat.mod_mul_mod, ← Nat.pow_add, show i + (n - 1 - i) = n - 1 by omega]; exact h1
      have h3 : d ∣ d * g ^ (n - 1 - i) % n := (Nat.dvd_mod_iff hd).2 (Nat.dvd_mul_right _ _)
      rw [e1] at h3
      exact Nat.dvd_one.1 h3
  · obtain ⟨i, hi, he⟩ := hsurj x hx0 hx1
    rw [← he, ← Nat.pow_mod, ← Nat.pow_mul, Nat.mul_comm, Nat.pow_mul, Nat.pow_mod, h1, Nat.one_pow, Nat.mod_eq_of_lt hn]
end
theorem pr2 : Prm 2 := prm_td (f := 6) (by decide) (by decide +kernel)
theorem pr3 : Prm 3 := prm_td (f := 6) (by decide) (by decide +kernel)
theorem pr5 : Prm 5 := prm_td (f := 7) (by decide) (by decide +kernel)
theorem pr7 : Prm 7 := prm_td (f := 7) (by decide) (by decide +kernel)
theorem pr13 : Prm 13 := prm_td (f := 8) (by decide) (by decide +kernel)
theorem pr19 : Prm 19 := prm_td (f := 9) (by decide) (by decide +kernel)
theorem pr31 : Prm 31 := prm_td (f := 10) (by decide) (by decide +kernel)
theorem pr47 : Prm 47 := prm_td (f := 11) (by decide) (by decide +kernel)
theorem pr107 : Prm 107 := prm_td (f := 15) (by decide) (by decide +kernel)
theorem pr127 : Prm 127 := prm_td (f := 16) (by decide) (by decide +kernel)
theorem pr223 : Prm 223 := prm_td (f := 19) (by decide) (by decide +kernel)
theorem pr353 : Prm 353 := prm_td (f := 23) (by decide) (by decide +kernel)
theorem pr2437 : Prm 2437 := prm_td (f := 54) (by decide) (by decide +kernel)
theorem pr4153 : Prm 4153 := prm_td (f := 69) (by decide) (by decide +kernel)
theorem pr57467 : Prm 57467 := prm_td (f := 244) (by decide) (by decide +kernel)
theorem pr65147 : Prm 65147 := prm_td (f := 260) (by decide) (by decide +kernel)
theorem pr75707 : Prm 75707 := prm_td (f := 280) (by decide) (by decide +kernel)
theorem pr132049 : Prm 132049 := prm_td (f := 368) (by decide) (by decide +kernel)
theorem pr430751 : Prm 430751 := prm_td (f := 661) (by decide) (by decide +kernel)
theorem pr569003 : Prm 569003 := prm_td (f := 759) (by decide) (by decide +kernel)
theorem pr1923133 : Prm 1923133 := prm_td (f := 1391) (by decide) (by decide +kernel)
theorem pr8574133 : Prm 8574133 := prm_td (f := 2933) (by decide) (by decide +kernel)
theorem fs320623 : ∀ q ∈ ([2, 2437, 569003] : List Nat), Prm q := by
  intro q h
  simp only [List.mem_cons, List.not_mem_nil, or_false] at h
  rcases h with rfl | rfl | rfl
  · exact pr2
  · exact pr2437
  · exact pr569003
theorem pr2773320623 : Prm 2773320623 ∧ ∀ x, 0 < x → x < 2773320623 → x ^ (2773320623 - 1) % 2773320623 = 1 :=
  pratt (g := 5) (fs := [2, 2437, 569003]) (e := 32) (by decide) fs320623 (by decide +kernel) (by decide +kernel) (by decide +kernel) (by decide +kernel)
theorem fs336199 : ∀ q ∈ ([2, 13, 2773320623] : List Nat), Prm q := by
  intro q h
  simp only [List.mem_cons, List.not_mem_nil, or_false] at h
  rcases h with rfl | rfl | rfl
  · exact pr2
  · exact pr13
  · exact pr2773320623.1
theorem pr72106336199 : Prm 72106336199 ∧ ∀ x, 0 < x → x < 72106336199 → x ^ (72106336199 - 1) % 72106336199 = 1 :=
  pratt (g := 7) (fs := [2, 13, 2773320623]) (e := 37) (by decide) fs336199 (by decide +kernel) (by decide +kernel) (by decide +kernel) (by decide +kernel)
theorem fs386763 : ∀ q ∈ ([2, 3, 7, 19, 47, 47, 127, 8574133] : List Nat), Prm q := by
  intro q h
  simp only [List.mem_cons, List.not_mem_nil, or_false] at h
  rcases h with rfl | rfl | rfl | rfl | rfl | rfl | rfl | rfl
  · exact pr2
  · exact pr3
  · exact pr7
  · exact pr19
  · exact pr47
  · exact pr47
  · exact pr127
  · exact pr8574133
theorem pr1919519569386763 : Prm 1919519569386763 ∧ ∀ x, 0 < x → x < 1919519569386763 → x ^ (1919519569386763 - 1) % 1919519569386763 = 1 :=
  pratt (g := 2) (fs := [2, 3, 7, 19, 47, 47, 127, 8574133]) (e := 51) (by decide) fs386763 (by decide +kernel) (by decide +kernel) (by decide +kernel) (by decide +kernel)
theorem fs855353 : ∀ q ∈ ([2, 2, 2, 3, 31, 107, 223, 4153, 430751] : List Nat), Prm q := by
  intro q h
  simp only [List.mem_cons, List.not_mem_nil, or_false] at h
  rcases h with rfl | rfl | rfl | rfl | rfl | rfl | rfl | rfl | rfl
  · exact pr2
  · exact pr2
  · exact pr2
  · exact pr3
  · exact pr31
  · exact pr107
  · exact pr223
  · exact pr4153
  · exact pr430751
theorem pr31757755568855353 : Prm 31757755568855353 ∧ ∀ x, 0 < x → x < 31757755568855353 → x ^ (31757755568855353 - 1) % 31757755568855353 = 1 :=
  pratt (g := 10) (fs := [2, 2, 2, 3, 31, 107, 223, 4153, 430751]) (e := 55) (by decide) fs855353 (by decide +kernel) (by decide +kernel) (by decide +kernel) (by decide +kernel)
theorem fs864801 : ∀ q ∈ ([2, 2, 2, 2, 2, 3, 3, 5, 5, 75707, 72106336199, 1919519569386763] : List Nat), Prm q := by
  intro q h
  simp only [List.mem_cons, List.not_mem_nil, or_false] at h
  rcases h with rfl | rfl | rfl | rfl | rfl | rfl | rfl | rfl | rfl | rfl | rfl | rfl
  · exact pr2
  · exact pr2
  · exact pr2
  · exact pr2
  · exact pr2
  · exact pr3
  · exact pr3
  · exact pr5
  · exact pr5
  · exact pr75707
  · exact pr72106336199.1
  · exact pr1919519569386763.1
theorem pr75445702479781427272750846543864801 : Prm 75445702479781427272750846543864801 ∧ ∀ x, 0 < x → x < 75445702479781427272750846543864801 → x ^ (75445702479781427272750846543864801 - 1) % 75445702479781427272750846543864801 = 1 :=
  pratt (g := 7) (fs := [2, 2, 2, 2, 2, 3, 3, 5, 5, 75707, 72106336199, 1919519569386763]) (e := 116) (by decide) fs864801 (by decide +kernel) (by decide +kernel) (by decide +kernel) (by decide +kernel)
theorem fs340907 : ∀ q ∈ ([2, 3, 353, 57467, 132049, 1923133, 31757755568855353, 75445702479781427272750846543864801] : List Nat), Prm q := by
  intro q h
  simp only [List.mem_cons, List.not_mem_nil, or_false] at h
  rcases h with rfl | rfl | rfl | rfl | rfl | rfl | rfl | rfl
  · exact pr2
  · exact pr3
  · exact pr353
  · exact pr57467
  · exact pr132049
  · exact pr1923133
  · exact pr31757755568855353.1
  · exact pr75445702479781427272750846543864801.1
theorem pr74058212732561358302231226437062788676166966415465897661863160754340907 : Prm 74058212732561358302231226437062788676166966415465897661863160754340907 ∧ ∀ x, 0 < x → x < 74058212732561358302231226437062788676166966415465897661863160754340907 → x ^ (74058212732561358302231226437062788676166966415465897661863160754340907 - 1) % 74058212732561358302231226437062788676166966415465897661863160754340907 = 1 :=
  pratt (g := 2) (fs := [2, 3, 353, 57467, 132049, 1923133, 31757755568855353, 75445702479781427272750846543864801]) (e := 236) (by decide) fs340907 (by decide +kernel) (by decide +kernel) (by decide +kernel) (by decide +kernel)
theorem fs819949 : ∀ q ∈ ([2, 2, 3, 65147, 74058212732561358302231226437062788676166966415465897661863160754340907] : List Nat), Prm q := by
  intro q h
  simp only [List.mem_cons, List.not_mem_nil, or_false] at h
  rcases h with rfl | rfl | rfl | rfl | rfl
  · exact pr2
  · exact pr2
  · exact pr3
  · exact pr65147
  · exact pr74058212732561358302231226437062788676166966415465897661863160754340907.1
theorem pr57896044618658097711785492504343953926634992332820282019728792003956564819949 : Prm 57896044618658097711785492504343953926634992332820282019728792003956564819949 ∧ ∀ x, 0 < x → x < 57896044618658097711785492504343953926634992332820282019728792003956564819949 → x ^ (57896044618658097711785492504343953926634992332820282019728792003956564819949 - 1) % 57896044618658097711785492504343953926634992332820282019728792003956564819949 = 1 :=
  pratt (g := 2) (fs := [2, 2, 3, 65147, 74058212732561358302231226437062788676166966415465897661863160754340907]) (e := 255) (by decide) fs819949 (by decide +kernel) (by decide +kernel) (by decide +kernel) (by decide +kernel)
end Am
set_option linter.unusedSimpArgs false
set_option linter.unusedVariables false
set_option maxRecDepth 20000
namespace Am
open Go.Proofs
/-! ### Powers that are 1 -/
def qP : Nat := 57896044618658097711785492504343953926634992332820282019728792003956564819948
def qI : Nat := 57896044618658097711785492504343953926634992332820282019728792003956564819947
theorem fermat_gen {P : Nat} (hP : ∀ x, 0 < x → x < P → x ^ (P - 1) % P = 1) {e : Nat} (he : P - 1 = e) {x : Int} (h0 : 0 < x) (h1 : x < (P : Int)) : x ^ e % (P : Int) = 1 := by
  obtain ⟨n, rfl⟩ := Int.eq_ofNat_of_zero_le (Int.le_of_lt h0)
  have h := hP n (by omega) (by omega)
  rw [he] at h
  have h2 : ((n ^ e % P : Nat) : Int) = 1 := by rw [h]; rfl
  rwa [Int.natCast_emod, Int.natCast_pow] at h2
theorem cast_Pp : ((57896044618658097711785492504343953926634992332820282019728792003956564819949 : Nat) : Int) = Pp := rfl
theorem qP_eq : 57896044618658097711785492504343953926634992332820282019728792003956564819949 - 1 = qP := rfl
theorem fermat {x : Int} (h0 : 0 < x) (h1 : x < Pp) : x ^ qP % Pp = 1 := by
  have := fermat_gen pr57896044618658097711785492504343953926634992332820282019728792003956564819949.2 qP_eq h0 (by rw [cast_Pp]; exact h1)
  rwa [cast_Pp] at this
theorem qI_eq : Pp - 2 = (qI : Int) := by decide
theorem qI_lt : qI < 2 ^ 256 := by decide
theorem qPI : qP = qI + 1 := rfl
theorem inv_val {x : Int} (h0 : 0 ≤ x) (h1 : x < Pp) : pw x (Pp - 2) = x ^ qI % Pp := by
  rw [qI_eq]; exact pw_pow h0 h1 qI_lt
theorem inv_mul {x : Int} (h0 : 0 < x) (h1 : x < Pp) : x * pw x (Pp - 2) % Pp = 1 := by
  have h := fermat h0 h1
  rw [qPI, Int.pow_succ, Int.mul_comm] at h
  rw [inv_val (Int.le_of_lt h0) h1, Int.mul_emod, Int.emod_emod_of_dvd _ (Int.dvd_refl _), ← Int.mul_emod]
  exact h

theorem fm1 (a b : Int) : a % Pp * b % Pp = a * b % Pp := by rw [Int.mul_emod, Int.emod_emod_of_dvd _ (Int.dvd_refl _), ← Int.mul_emod]
theorem fm2 (a b : Int) : a * (b % Pp) % Pp = a * b % Pp := by rw [Int.mul_emod, Int.emod_emod_of_dvd _ (Int.dvd_refl _), ← Int.mul_emod]
theorem fa1 (a b : Int) : (a % Pp + b) % Pp = (a + b) % Pp := Int.emod_add_emod ..
theorem fa2 (a b : Int) : (a + b % Pp) % Pp = (a + b) % Pp := Int.add_emod_emod ..
theorem fs1 (a b : Int) : (a % Pp - b) % Pp = (a - b) % Pp := Int.emod_sub_emod ..
theorem fs2 (a b : Int) : (a - b % Pp) % Pp = (a - b) % Pp := Int.sub_emod_emod ..
theorem z_of {p : Int} (h : p = 0) : p % Pp = 0 := by rw [h]; rfl
end Am
