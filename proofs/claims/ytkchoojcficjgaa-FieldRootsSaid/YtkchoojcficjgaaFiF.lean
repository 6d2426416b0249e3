/-
Working texts: contracts of functions, and the numbers behind them.
-/
import Derived.Test.YtkchoojcficjgaaFiC
import Derived.Test.YtkchoojcficjgaaRfA
set_option linter.unusedSimpArgs false
set_option linter.unusedVariables false
set_option linter.unusedSectionVars false
set_option linter.unusedSimpArgs false
set_option linter.unusedVariables false
set_option maxRecDepth 20000
namespace Am
open Go.Proofs
/-! ### A number's bytes -/
def Pp : Int := 57896044618658097711785492504343953926634992332820282019728792003956564819949
abbrev ev5 (xs : List Int) : Int := val 2251799813685248 xs
theorem ev_ex (a b c d e : Int) : ev5 [a, b, c, d, e] = a + 2251799813685248 * b + 5070602400912917605986812821504 * c + 11417981541647679048466287755595961091061972992 * d + 25711008708143844408671393477458601640355247900524685364822016 * e := by
  simp only [ev5, val]; omega
theorem carry_ev {xs : List Int} (h : xs.length = 5) : ∃ t : Int, ev5 (carryF xs) = ev5 xs - t * Pp := by
  obtain ⟨a, b, c, d, e, rfl⟩ := list5 h
  rw [carry_ex, ev_ex, ev_ex]
  obtain ⟨p, hp⟩ : ∃ p, (a + 0) / 2251799813685248 = p := ⟨_, rfl⟩
  obtain ⟨q, hq⟩ : ∃ q, (b + p) / 2251799813685248 = q := ⟨_, rfl⟩
  obtain ⟨r, hr⟩ : ∃ r, (c + q) / 2251799813685248 = r := ⟨_, rfl⟩
  obtain ⟨s, hs⟩ : ∃ s, (d + r) / 2251799813685248 = s := ⟨_, rfl⟩
  obtain ⟨t, ht⟩ : ∃ t, (e + s) / 2251799813685248 = t := ⟨_, rfl⟩
  rw [hp, hq, hr, hs, ht]
  refine ⟨t, ?_⟩
  unfold Pp
  omega
theorem mod_mod_div (y : Int) {w r : Nat} (h : r < w) : y % 2 ^ w / 2 ^ r % 2 = y / 2 ^ r % 2 := by
  have hA : (0 : Int) < 2 ^ r := Int.pow_pos (by decide)
  have e : (2 : Int) ^ w = 2 ^ r * 2 ^ (w - r) := by rw [← Int.pow_add]; congr 1; omega
  have e2 : (2 : Int) ^ (w - r) = 2 * 2 ^ (w - r - 1) := by
    conv => lhs; rw [show w - r = 1 + (w - r - 1) by omega, Int.pow_add]
    rfl
  have h1 : y % 2 ^ w = y + 2 ^ r * -(2 * 2 ^ (w - r - 1) * (y / 2 ^ w)) := by
    rw [Int.emod_def, e, e2]; grind
  rw [h1, Int.add_mul_ediv_left _ _ (by omega)]
  have : y / 2 ^ r + -(2 * 2 ^ (w - r - 1) * (y / 2 ^ w)) = y / 2 ^ r + 2 * -(2 ^ (w - r - 1) * (y / 2 ^ w)) := by grind
  rw [this, Int.add_mul_emod_self_left]
theorem bit_of51 {b : List Int} (hw : Dig 2251799813685248 b) (i : Nat) : getI b (i / 51) / 2 ^ (i % 51) % 2 = ev5 b / 2 ^ i % 2 := by
  rw [digit_at (by decide) hw]
  have e : (2 : Int) ^ i = 2251799813685248 ^ (i / 51) * 2 ^ (i % 51) := by
    conv => lhs; rw [← Nat.div_add_mod i 51, Int.pow_add, Int.pow_mul]
    rfl
  rw [e, ← Int.ediv_ediv_of_nonneg (Int.le_of_lt (Int.pow_pos (by decide)))]
  exact mod_mod_div _ (w := 51) (Nat.mod_lt _ (by decide))
/-- A bit laid onto bytes. -/
theorem bit_step {V : Int} {n i : Nat} (hi : i / 8 < n) :
    (dig 256 n (V % 2 ^ i)).set (i / 8) (getI (dig 256 n (V % 2 ^ i)) (i / 8) + V / 2 ^ i % 2 * 2 ^ (i % 8)) = dig 256 n (V % 2 ^ (i + 1)) := by
  have hp : (0 : Int) < 2 ^ i := Int.pow_pos (by decide)
  have h0 : 0 ≤ V % 2 ^ i := Int.emod_nonneg _ (by omega)
  have h1 : V % 2 ^ i < 2 ^ i := Int.emod_lt_of_pos _ hp
  have e : (2 : Int) ^ i = 256 ^ (i / 8) * 2 ^ (i % 8) := by
    conv => lhs; rw [← Nat.div_add_mod i 8, Int.pow_add, Int.pow_mul]
    rfl
  have hq : (0 : Int) < 256 ^ (i / 8) := Int.pow_pos (by decide)
  have hr : (0 : Int) < 2 ^ (i % 8) := Int.pow_pos (by decide)
  have hr2 : (2 : Int) * 2 ^ (i % 8) ≤ 256 := by
    have : i % 8 < 8 := Nat.mod_lt _ (by decide)
    generalize i % 8 = r at this
    rcases (by omega : r = 0 ∨ r = 1 ∨ r = 2 ∨ r = 3 ∨ r = 4 ∨ r = 5 ∨ r = 6 ∨ r = 7) with rfl | rfl | rfl | rfl | rfl | rfl | rfl | rfl <;> decide
  have hs : V % 2 ^ (i + 1) = V % 2 ^ i + 2 ^ i * (V / 2 ^ i % 2) := by
    rw [Int.emod_def, Int.emod_def, Int.emod_def, Int.pow_succ, ← Int.ediv_ediv_of_nonneg (Int.le_of_lt hp)]; grind
  have hlt : V % 2 ^ i < 256 ^ n := Int.lt_of_lt_of_le h1 (by
    rw [e]
    have h2 : (256 : Int) ^ (i / 8 + 1) ≤ 256 ^ n := by
      have e3 : (256 : Int) ^ n = 256 ^ (i / 8 + 1) * 256 ^ (n - (i / 8 + 1)) := by rw [← Int.pow_add]; congr 1; omega
      have e4 : (0 : Int) < 256 ^ (n - (i / 8 + 1)) := Int.pow_pos (by decide)
      have e5 : (0 : Int) < 256 ^ (i / 8 + 1) := Int.pow_pos (by decide)
      rw [e3]
      have := Int.mul_le_mul_of_nonneg_left (show (1 : Int) ≤ 256 ^ (n - (i / 8 + 1)) by omega) (Int.le_of_lt e5)
      rwa [Int.mul_one] at this
    rw [Int.pow_succ] at h2
    exact Int.le_trans (Int.mul_le_mul_of_nonneg_left (show (2 : Int) ^ (i % 8) ≤ 256 by omega) (Int.le_of_lt hq)) h2)
  have hg : getI (dig 256 n (V % 2 ^ i)) (i / 8) = V % 2 ^ i / 256 ^ (i / 8) % 256 := getI_dig (by decide) hi
  have hb : V % 2 ^ i / 256 ^ (i / 8) < 2 ^ (i % 8) := Int.ediv_lt_of_lt_mul hq (by rw [Int.mul_comm, ← e]; exact h1)
  have hb0 : 0 ≤ V % 2 ^ i / 256 ^ (i / 8) := Int.ediv_nonneg h0 (Int.le_of_lt hq)
  have hg2 : getI (dig 256 n (V % 2 ^ i)) (i / 8) = V % 2 ^ i / 256 ^ (i / 8) := by rw [hg]; exact Int.emod_eq_of_lt hb0 (by omega)
  have hbit : V / 2 ^ i % 2 = 0 ∨ V / 2 ^ i % 2 = 1 := by omega
  refine dig_of (by decide) ((dig_dig (by decide) _ _).set _ ?_ ?_) (by rw [List.length_set, qaj]) ?_
  · rw [hg2]; rcases hbit with h | h <;> rw [h] <;> omega
  · rw [hg2]; rcases hbit with h | h <;> rw [h] <;> omega
  · rw [val_set _ _ _ _ (by rw [qaj]; exact hi), val_dig (by decide) h0 hlt, hs, e]
    generalize V / (256 ^ (i / 8) * 2 ^ (i % 8)) % 2 = t
    grind
def qst (cs : List Int) (q : Int) (j : Nat) : Int := (getI cs (j + 1) + q) / 2251799813685248
theorem qst_inv {cs : List Int} (h : Fv 4503599627370496 cs) (n : Nat) : 0 ≤ itr (qst cs) ((getI cs 0 + 19) / 2251799813685248) n ∧ itr (qst cs) ((getI cs 0 + 19) / 2251799813685248) n ≤ 4 := by
  refine itr_inv (fun _ q => 0 ≤ q ∧ q ≤ 4) ?_ (fun n q hq => ?_) n
  · have := h.all (by decide) 0; omega
  · have := h.all (by decide) (n + 1); simp only [qst]; omega
theorem mod_fold {E Q : Int} (h0 : 0 ≤ E) (h1 : E < 2 * Pp) (hQ : Q = (E + 19) / 57896044618658097711785492504343953926634992332820282019728792003956564819968) : E % Pp = (E + 19 * Q) % 57896044618658097711785492504343953926634992332820282019728792003956564819968 := by
  unfold Pp at *
  rcases (by omega : E < 57896044618658097711785492504343953926634992332820282019728792003956564819949 ∨ 57896044618658097711785492504343953926634992332820282019728792003956564819949 ≤ E) with h | h
  · have : Q = 0 := by omega
    subst this
    rw [Int.emod_eq_of_lt h0 h]; omega
  · have : Q = 1 := by omega
    subst this
    omega
/-- The parts of what is below 2^255, when all is carried. -/
theorem limbs {cs : List Int} (h : Fv 2251799813685305 cs) :
    (itr cst (cs.set 0 (getI cs 0 + 19 * itr (qst cs) ((getI cs 0 + 19) / 2251799813685248) 4), 0) 5).1 = dig 2251799813685248 5 (ev5 cs % Pp) := by
  obtain ⟨a, b, c, d, e, rfl⟩ := list5 h.1
  have ha : 0 ≤ a ∧ a < 2251799813685305 := h.all (by decide) 0
  have hb : 0 ≤ b ∧ b < 2251799813685305 := h.all (by decide) 1
  have hc : 0 ≤ c ∧ c < 2251799813685305 := h.all (by decide) 2
  have hd : 0 ≤ d ∧ d < 2251799813685305 := h.all (by decide) 3
  have he : 0 ≤ e ∧ e < 2251799813685305 := h.all (by decide) 4
  have e1 : itr (qst [a, b, c, d, e]) ((getI [a, b, c, d, e] 0 + 19) / 2251799813685248) 4 = (e + (d + (c + (b + (a + 19) / 2251799813685248) / 2251799813685248) / 2251799813685248) / 2251799813685248) / 2251799813685248 := rfl
  rw [e1]
  obtain ⟨Q, hQ⟩ : ∃ Q, (e + (d + (c + (b + (a + 19) / 2251799813685248) / 2251799813685248) / 2251799813685248) / 2251799813685248) / 2251799813685248 = Q := ⟨_, rfl⟩
  rw [hQ]
  obtain ⟨E, hE⟩ : ∃ E, ev5 [a, b, c, d, e] = E := ⟨_, rfl⟩
  rw [hE]
  rw [ev_ex] at hE
  have hQ1 : Q = (E + 19) / 57896044618658097711785492504343953926634992332820282019728792003956564819968 := by
    obtain ⟨p, hp⟩ : ∃ p, (a + 19) / 2251799813685248 = p := ⟨_, rfl⟩
    obtain ⟨q, hq⟩ : ∃ q, (b + p) / 2251799813685248 = q := ⟨_, rfl⟩
    obtain ⟨r, hr⟩ : ∃ r, (c + q) / 2251799813685248 = r := ⟨_, rfl⟩
    obtain ⟨s, hs⟩ : ∃ s, (d + r) / 2251799813685248 = s := ⟨_, rfl⟩
    rw [hp, hq, hr, hs] at hQ
    omega
  clear hQ
  have hE0 : 0 ≤ E ∧ E < 2 * Pp := by unfold Pp; omega
  have hm : E % Pp = (E + 19 * Q) % 57896044618658097711785492504343953926634992332820282019728792003956564819968 := by
    exact mod_fold hE0.1 hE0.2 hQ1
  have hset : ([a, b, c, d, e] : List Int).set 0 (getI [a, b, c, d, e] 0 + 19 * Q) = [a + 19 * Q, b, c, d, e] := rfl
  have hit : ∀ x : Int, (itr cst ([x, b, c, d, e], 0) 5).1 = [(x + 0) % 2251799813685248, (b + (x + 0) / 2251799813685248) % 2251799813685248, (c + (b + (x + 0) / 2251799813685248) / 2251799813685248) % 2251799813685248, (d + (c + (b + (x + 0) / 2251799813685248) / 2251799813685248) / 2251799813685248) % 2251799813685248, (e + (d + (c + (b + (x + 0) / 2251799813685248) / 2251799813685248) / 2251799813685248) / 2251799813685248) % 2251799813685248] := fun x => rfl
  rw [hset, hit, hm]
  have h255 : (57896044618658097711785492504343953926634992332820282019728792003956564819968 : Int) = 2251799813685248 ^ 5 := by decide
  rw [h255, dig_emod (by decide)]
  obtain ⟨x, hx⟩ : ∃ x, a + 19 * Q = x := ⟨_, rfl⟩
  have hEx : E + 19 * Q = x + 2251799813685248 * b + 5070602400912917605986812821504 * c + 11417981541647679048466287755595961091061972992 * d + 25711008708143844408671393477458601640355247900524685364822016 * e := by omega
  rw [hx, hEx]
  obtain ⟨p, hp⟩ : ∃ p, (x + 0) / 2251799813685248 = p := ⟨_, rfl⟩
  obtain ⟨q, hq⟩ : ∃ q, (b + p) / 2251799813685248 = q := ⟨_, rfl⟩
  obtain ⟨r, hr⟩ : ∃ r, (c + q) / 2251799813685248 = r := ⟨_, rfl⟩
  obtain ⟨s, hs⟩ : ∃ s, (d + r) / 2251799813685248 = s := ⟨_, rfl⟩
  rw [hp, hq, hr, hs]
  simp only [dig]
  have k1 : (x + 2251799813685248 * b + 5070602400912917605986812821504 * c + 11417981541647679048466287755595961091061972992 * d + 25711008708143844408671393477458601640355247900524685364822016 * e) / 2251799813685248 = b + p + 2251799813685248 * (c + 2251799813685248 * (d + 2251799813685248 * e)) := by omega
  have k2 : (b + p + 2251799813685248 * (c + 2251799813685248 * (d + 2251799813685248 * e))) / 2251799813685248 = c + q + 2251799813685248 * (d + 2251799813685248 * e) := by omega
  have k3 : (c + q + 2251799813685248 * (d + 2251799813685248 * e)) / 2251799813685248 = d + r + 2251799813685248 * e := by omega
  have k4 : (d + r + 2251799813685248 * e) / 2251799813685248 = e + s := by omega
  rw [k1, k2, k3, k4]
  simp only [List.cons.injEq, and_true]
  refine ⟨?_, ?_, ?_, ?_⟩ <;> omega
end Am
set_option linter.unusedSimpArgs false
set_option linter.unusedVariables false
set_option maxRecDepth 20000
namespace Am
open Go.Proofs
/-! ### The bytes: the walk -/
def bytesF (xs : List Int) : List Int := dig 256 32 (ev5 xs % Pp)
theorem carry_any {xs : List Int} (h : Fv 4503599627370496 xs) : Fv 4503599627370496 (carryF xs) := (carry_lo h).le (by decide)
theorem ev_mod {xs : List Int} (h : xs.length = 5) : ev5 (carryF xs) % Pp = ev5 xs % Pp := by
  obtain ⟨t, ht⟩ := carry_ev h
  rw [ht, Int.sub_eq_add_neg, ← Int.neg_mul, Int.add_mul_emod_self_right]
def F27 : List D → Out
  | [.v (.ints _ xs)] => .one (.v (.ints .u8 (bytesF xs)))
  | _ => bad
def s27 : Summ := sData [.v] preE1 F27
theorem w64_div51 {i : Nat} (hi : i < 9223372036854775808) : Go.IntKind.i64.wrap ((i : Int).tdiv 51) = ((i / 51 : Nat) : Int) := w64_div (k := 51) hi
theorem tmod51 {i : Nat} : (i : Int).tmod 51 = ((i % 51 : Nat) : Int) := tmod_nat (k := 51)
theorem bAnd_one64 {a : Int} (h0 : 0 ≤ a) (h1 : a < 18446744073709551616) : bAnd .u64 a 1 = a % 2 := by
  have := bAnd_mask .u64 1 a h0 (by simpa [Go.IntKind.bits] using h1) (by decide) rfl
  simpa using this
theorem or_bit {x t : Int} {r : Nat} (hx0 : 0 ≤ x) (hx1 : x < 2 ^ r) (ht : t = 0 ∨ t = 1) (hr : r < 8) : bOr .u8 x (iShl .u8 t (r : Int)) = x + t * 2 ^ r := by
  have hs : iShl .u8 t (r : Int) = t * 2 ^ r := by
    rw [iShl, Int.toNat_natCast, Nat.min_eq_left (by simp only [Go.IntKind.bits]; omega), wrap_u8]
    rcases ht with rfl | rfl
    · simp
    · rcases (by omega : r = 0 ∨ r = 1 ∨ r = 2 ∨ r = 3 ∨ r = 4 ∨ r = 5 ∨ r = 6 ∨ r = 7) with rfl | rfl | rfl | rfl | rfl | rfl | rfl | rfl <;> rfl
  have hb : (0 : Int) ≤ t * 2 ^ r ∧ t * 2 ^ r < 256 := by
    rcases ht with rfl | rfl
    · simp
    · rcases (by omega : r = 0 ∨ r = 1 ∨ r = 2 ∨ r = 3 ∨ r = 4 ∨ r = 5 ∨ r = 6 ∨ r = 7) with rfl | rfl | rfl | rfl | rfl | rfl | rfl | rfl <;> decide
  rw [hs, bOr_comm, bOr_add .u8 r (t * 2 ^ r) x hb.1 (by simpa [Go.IntKind.bits] using hb.2) (Int.mul_emod_left _ _) hx0 hx1 (by simp only [Go.IntKind.bits]; omega) rfl, Int.add_comm]
theorem ok27 {g : List Blk} [Ge gl g] : SumOK Try.prog g 27 s27 ∧ SumAbs s27 := by
  refine fsumA (l := [(76, s76)]) mixed gl_plain rfl Try.func27 comp27 compR27 nt27 (by simp only [List.mem_cons, List.not_mem_nil, or_false, forall_eq]; exact ok76) fun ds ⟨xs, hd, hx⟩ hA => ?_
  subst hd
  have hxl := hx.1
  have hb : bytesF xs = dig 256 32 (ev5 (carryF (carryF xs)) % Pp) := by rw [bytesF, ev_mod (carry_len hxl), ev_mod hxl]
  have hc := carry_lo (carry_any hx)
  have p0 : preC [.v (.ints .u64 xs)] := ⟨xs, rfl, hx.le (by decide)⟩
  have p1 : preC [.v (.ints .u64 (carryF xs))] := ⟨_, rfl, (carry_any hx).le (by decide)⟩
  have sx : sub xs 0 5 = xs := qda hxl
  obtain ⟨cs, hcs⟩ : ∃ cs, carryF (carryF xs) = cs := ⟨_, rfl⟩
  rw [hcs] at hc hb
  have hcl := hc.1
  have h52 : Fv 4503599627370496 cs := hc.le (by decide)
  have sp0 : spl xs 0 cs = cs := qc6 (by omega)
  have c0 := hc.all (by decide) 0
  have w0 : Go.IntKind.u64.wrap (getI cs 0 + 19) = getI cs 0 + 19 := by rw [wrap_u64]; omega
  have w1 : iShr .u64 (getI cs 0 + 19) 51 = (getI cs 0 + 19) / 2251799813685248 := shr_51 _
  simp only [s76]
  simp only [ir27,rs27,gl,F27,hxl,p0,p1,sx,hcs,hcl,sp0,w0,w1,s76,F76,qda,qc6,qaj,List.length_cons,List.length_nil,Nat.reduceAdd,Nat.le_refl,Nat.reduceLeDiff,Nat.reduceLT,true_and,and_true,↓qax,↓qay,↓qa0,↓qaz,↓qcs,↓qbj,↓qa1,↓qcl,↓qb3,↓qci,↓qcb,↓qce,↓qcf,↓qb4,↓qcd,↓qcj,↓qb5,↓qcg,↓qch,↓qb6,↓qcc,↓qca,↓qb9,↓qb8,↓qb7,↓qa5,↓qbc,↓qa6,↓qbd,↓qa7,↓qbe,↓qa8,↓qbf,↓qa9,↓qbg,↓qba,↓qbh,↓qbb,↓qbi,↓qb2,↓qck,↓qfc,↓qco,↓qcp,↓qcq,↓qcn,↓qcm,↓qbm,↓qbn,↓qb0,↓qbv,↓qbq,↓qbu,↓qbz,↓qbw,↓qby,↓qbx,↓qbr,↓qbp,↓qb1,↓qbs,↓qbt,↓qbo,↓qez,↓qey,↓qe3,↓qe5,↓qe4,↓qex,↓qew,↓qet,↓qeu,↓qe2,↓qe1,↓qe0,qc5,↓qeq,↓qer,↓qev,↓qc4,↓qc2,↓qc3,↓qe7,↓qe8,↓qe9,↓qe6,qaa,↓qes,↓qef,↓qeg,↓qfb,↓qfa,↓qei,↓qdk,↓qds,↓qd9,↓qea,↓qen,↓qeo,↓qdo,↓qdp,↓qdr,↓qdq,↓qdx,↓qep,↓qdv,↓qej,↓qdn,↓qed,↓qek,↓qel,↓qem,↓qd1,↓qd0,↓qd2,↓qd3,↓qd5,↓qdz,↓qd6,↓qd8,↓qd7,↓qdl,↓qdm,↓qdy,↓qaw,↓qdw,↓qee,↓qec,↓qdj,↓qeh,↓qeb,↓qd4,qav,List.drop_zero,Nat.sub_zero,qcy,qct,qcu,qdh,qat,qas,qaf,List.map_cons,List.map_nil,List.zip_cons_cons,List.zip_nil_right,List.zip_nil_left,qau,evs,evp,mkB,repB,blen,qae,qad,qac,qab,qc1,qc0,qdg,qdi,qde,qdf,qcx,qcz,qcv,qcw,↓qdc,↓qdb,↓qdd,↓qah,↓qag,↓qai,↓retQ,res,resAll,resOne,kill,apartOk,exp,injV,injB,pur,purs,purR,pursR,List.set_cons_zero,List.set_cons_succ,List.length_cons,List.length_nil,List.cons_append,List.nil_append,List.append_nil,List.append_assoc,List.length_append,List.reduceReplicate,Nat.reduceAdd,Nat.reduceMul,Nat.reduceSub,Nat.reduceEqDiff,Nat.reduceLT,Nat.zero_add,Nat.add_zero,Nat.mul_one,Int.reduceToNat,Int.toNat_natCast,Int.cast_ofNat_Int,Int.reduceLE,Int.reduceLT,Int.reduceEq,reduceCtorEq,↓reduceIte,Bool.true_eq_false,Bool.false_eq_true,Bool.not_true,Bool.not_false,true_and,and_true,and_assoc,qaj,sub1,qc8,qc7,qc9,List.length_replicate,Nat.le_refl,false_implies,true_implies,ne_eq,not_true_eq_false,not_false_eq_true,decide_true,decide_false,decide_eq_true_eq,decide_eq_false_iff_not,Bool.not_eq_true',Bool.not_eq_false']
  repeat (refine And.intro (by omega) ?_)
  refine awp_loopA (n := 86) hA [1, 2, 3, 19, 20, 21] (by decide +kernel) (fun j : Nat => [.ptr 4 0, .ptr 5 0, .int .u64 (itr (qst cs) ((getI cs 0 + 19) / 2251799813685248) j), .slice 4 1 1 4 4, .int .i64 4, .int .i64 j])
    (fun j => [.dead, .dead, .dead, .dead, .ints false .u64 cs, .ints false .u8 (List.replicate 32 0)]) (fun j => j ≤ 4) (fun j => 4 - j) 0 ?_ (by omega) ?_
  · refine Hd.same ?_
    simp only [itr,↓qax,↓qay,↓qa0,↓qaz,↓qcs,↓qbj,↓qa1,↓qcl,↓qb3,↓qci,↓qcb,↓qce,↓qcf,↓qb4,↓qcd,↓qcj,↓qb5,↓qcg,↓qch,↓qb6,↓qcc,↓qca,↓qb9,↓qb8,↓qb7,↓qa5,↓qbc,↓qa6,↓qbd,↓qa7,↓qbe,↓qa8,↓qbf,↓qa9,↓qbg,↓qba,↓qbh,↓qbb,↓qbi,↓qb2,↓qck,↓qfc,↓qco,↓qcp,↓qcq,↓qcn,↓qcm,↓qbm,↓qbn,↓qb0,↓qbv,↓qbq,↓qbu,↓qbz,↓qbw,↓qby,↓qbx,↓qbr,↓qbp,↓qb1,↓qbs,↓qbt,↓qbo,↓qez,↓qey,↓qe3,↓qe5,↓qe4,↓qex,↓qew,↓qet,↓qeu,↓qe2,↓qe1,↓qe0,qc5,↓qeq,↓qer,↓qev,↓qc4,↓qc2,↓qc3,↓qe7,↓qe8,↓qe9,↓qe6,qaa,↓qes,↓qef,↓qeg,↓qfb,↓qfa,↓qei,↓qdk,↓qds,↓qd9,↓qea,↓qen,↓qeo,↓qdo,↓qdp,↓qdr,↓qdq,↓qdx,↓qep,↓qdv,↓qej,↓qdn,↓qed,↓qek,↓qel,↓qem,↓qd1,↓qd0,↓qd2,↓qd3,↓qd5,↓qdz,↓qd6,↓qd8,↓qd7,↓qdl,↓qdm,↓qdy,↓qaw,↓qdw,↓qee,↓qec,↓qdj,↓qeh,↓qeb,↓qd4,qav,List.drop_zero,Nat.sub_zero,qcy,qct,qcu,qdh,qat,qas,qaf,List.map_cons,List.map_nil,List.zip_cons_cons,List.zip_nil_right,List.zip_nil_left,qau,evs,evp,mkB,repB,blen,qae,qad,qac,qab,qc1,qc0,qdg,qdi,qde,qdf,qcx,qcz,qcv,qcw,↓qdc,↓qdb,↓qdd,↓qah,↓qag,↓qai,↓retQ,res,resAll,resOne,kill,apartOk,exp,injV,injB,pur,purs,purR,pursR,List.set_cons_zero,List.set_cons_succ,List.length_cons,List.length_nil,List.cons_append,List.nil_append,List.append_nil,List.append_assoc,List.length_append,List.reduceReplicate,Nat.reduceAdd,Nat.reduceMul,Nat.reduceSub,Nat.reduceEqDiff,Nat.reduceLT,Nat.zero_add,Nat.add_zero,Nat.mul_one,Int.reduceToNat,Int.toNat_natCast,Int.cast_ofNat_Int,Int.reduceLE,Int.reduceLT,Int.reduceEq,reduceCtorEq,↓reduceIte,Bool.true_eq_false,Bool.false_eq_true,Bool.not_true,Bool.not_false,true_and,and_true,and_assoc,qaj,sub1,qc8,qc7,qc9,List.length_replicate,Nat.le_refl,false_implies,true_implies,ne_eq,not_true_eq_false,not_false_eq_true,decide_true,decide_false,decide_eq_true_eq,decide_eq_false_iff_not,Bool.not_eq_true',Bool.not_eq_false']
  intro j hj K hK
  have hq := qst_inv h52 j
  by_cases hlt : j < 4
  · have c1 : (j : Int) < 4 := by omega
    have wj : Go.IntKind.i64.wrap ((j : Int) + 1) = ((j + 1 : Nat) : Int) := by rw [wrap_i64]; omega
    have hs : itr (qst cs) ((getI cs 0 + 19) / 2251799813685248) (j + 1) = (getI cs (1 + j) + itr (qst cs) ((getI cs 0 + 19) / 2251799813685248) j) / 2251799813685248 := by rw [Nat.add_comm 1 j]; rfl
    obtain ⟨q, hqq⟩ : ∃ q, itr (qst cs) ((getI cs 0 + 19) / 2251799813685248) j = q := ⟨_, rfl⟩
    rw [hqq] at hs hq
    rw [hqq]
    have hg := hc.all (by decide) (1 + j)
    have w2 : Go.IntKind.u64.wrap (getI cs (1 + j) + q) = getI cs (1 + j) + q := by rw [wrap_u64]; omega
    have w3 : iShr .u64 (getI cs (1 + j) + q) 51 = (getI cs (1 + j) + q) / 2251799813685248 := shr_51 _
    simp only [c1,wj,hcl,hlt,w2,w3,qda,qc6,qaj,List.length_cons,List.length_nil,Nat.reduceAdd,Nat.le_refl,Nat.reduceLeDiff,Nat.reduceLT,true_and,and_true,↓qax,↓qay,↓qa0,↓qaz,↓qcs,↓qbj,↓qa1,↓qcl,↓qb3,↓qci,↓qcb,↓qce,↓qcf,↓qb4,↓qcd,↓qcj,↓qb5,↓qcg,↓qch,↓qb6,↓qcc,↓qca,↓qb9,↓qb8,↓qb7,↓qa5,↓qbc,↓qa6,↓qbd,↓qa7,↓qbe,↓qa8,↓qbf,↓qa9,↓qbg,↓qba,↓qbh,↓qbb,↓qbi,↓qb2,↓qck,↓qfc,↓qco,↓qcp,↓qcq,↓qcn,↓qcm,↓qbm,↓qbn,↓qb0,↓qbv,↓qbq,↓qbu,↓qbz,↓qbw,↓qby,↓qbx,↓qbr,↓qbp,↓qb1,↓qbs,↓qbt,↓qbo,↓qez,↓qey,↓qe3,↓qe5,↓qe4,↓qex,↓qew,↓qet,↓qeu,↓qe2,↓qe1,↓qe0,qc5,↓qeq,↓qer,↓qev,↓qc4,↓qc2,↓qc3,↓qe7,↓qe8,↓qe9,↓qe6,qaa,↓qes,↓qef,↓qeg,↓qfb,↓qfa,↓qei,↓qdk,↓qds,↓qd9,↓qea,↓qen,↓qeo,↓qdo,↓qdp,↓qdr,↓qdq,↓qdx,↓qep,↓qdv,↓qej,↓qdn,↓qed,↓qek,↓qel,↓qem,↓qd1,↓qd0,↓qd2,↓qd3,↓qd5,↓qdz,↓qd6,↓qd8,↓qd7,↓qdl,↓qdm,↓qdy,↓qaw,↓qdw,↓qee,↓qec,↓qdj,↓qeh,↓qeb,↓qd4,qav,List.drop_zero,Nat.sub_zero,qcy,qct,qcu,qdh,qat,qas,qaf,List.map_cons,List.map_nil,List.zip_cons_cons,List.zip_nil_right,List.zip_nil_left,qau,evs,evp,mkB,repB,blen,qae,qad,qac,qab,qc1,qc0,qdg,qdi,qde,qdf,qcx,qcz,qcv,qcw,↓qdc,↓qdb,↓qdd,↓qah,↓qag,↓qai,↓retQ,res,resAll,resOne,kill,apartOk,exp,injV,injB,pur,purs,purR,pursR,List.set_cons_zero,List.set_cons_succ,List.length_cons,List.length_nil,List.cons_append,List.nil_append,List.append_nil,List.append_assoc,List.length_append,List.reduceReplicate,Nat.reduceAdd,Nat.reduceMul,Nat.reduceSub,Nat.reduceEqDiff,Nat.reduceLT,Nat.zero_add,Nat.add_zero,Nat.mul_one,Int.reduceToNat,Int.toNat_natCast,Int.cast_ofNat_Int,Int.reduceLE,Int.reduceLT,Int.reduceEq,reduceCtorEq,↓reduceIte,Bool.true_eq_false,Bool.false_eq_true,Bool.not_true,Bool.not_false,true_and,and_true,and_assoc,qaj,sub1,qc8,qc7,qc9,List.length_replicate,Nat.le_refl,false_implies,true_implies,ne_eq,not_true_eq_false,not_false_eq_true,decide_true,decide_false,decide_eq_true_eq,decide_eq_false_iff_not,Bool.not_eq_true',Bool.not_eq_false']
    repeat (refine And.intro (by omega) ?_)
    refine ⟨j + 1, hK _ (by omega) (by omega), Hd.same ?_⟩
    simp only [hs,↓qax,↓qay,↓qa0,↓qaz,↓qcs,↓qbj,↓qa1,↓qcl,↓qb3,↓qci,↓qcb,↓qce,↓qcf,↓qb4,↓qcd,↓qcj,↓qb5,↓qcg,↓qch,↓qb6,↓qcc,↓qca,↓qb9,↓qb8,↓qb7,↓qa5,↓qbc,↓qa6,↓qbd,↓qa7,↓qbe,↓qa8,↓qbf,↓qa9,↓qbg,↓qba,↓qbh,↓qbb,↓qbi,↓qb2,↓qck,↓qfc,↓qco,↓qcp,↓qcq,↓qcn,↓qcm,↓qbm,↓qbn,↓qb0,↓qbv,↓qbq,↓qbu,↓qbz,↓qbw,↓qby,↓qbx,↓qbr,↓qbp,↓qb1,↓qbs,↓qbt,↓qbo,↓qez,↓qey,↓qe3,↓qe5,↓qe4,↓qex,↓qew,↓qet,↓qeu,↓qe2,↓qe1,↓qe0,qc5,↓qeq,↓qer,↓qev,↓qc4,↓qc2,↓qc3,↓qe7,↓qe8,↓qe9,↓qe6,qaa,↓qes,↓qef,↓qeg,↓qfb,↓qfa,↓qei,↓qdk,↓qds,↓qd9,↓qea,↓qen,↓qeo,↓qdo,↓qdp,↓qdr,↓qdq,↓qdx,↓qep,↓qdv,↓qej,↓qdn,↓qed,↓qek,↓qel,↓qem,↓qd1,↓qd0,↓qd2,↓qd3,↓qd5,↓qdz,↓qd6,↓qd8,↓qd7,↓qdl,↓qdm,↓qdy,↓qaw,↓qdw,↓qee,↓qec,↓qdj,↓qeh,↓qeb,↓qd4,qav,List.drop_zero,Nat.sub_zero,qcy,qct,qcu,qdh,qat,qas,qaf,List.map_cons,List.map_nil,List.zip_cons_cons,List.zip_nil_right,List.zip_nil_left,qau,evs,evp,mkB,repB,blen,qae,qad,qac,qab,qc1,qc0,qdg,qdi,qde,qdf,qcx,qcz,qcv,qcw,↓qdc,↓qdb,↓qdd,↓qah,↓qag,↓qai,↓retQ,res,resAll,resOne,kill,apartOk,exp,injV,injB,pur,purs,purR,pursR,List.set_cons_zero,List.set_cons_succ,List.length_cons,List.length_nil,List.cons_append,List.nil_append,List.append_nil,List.append_assoc,List.length_append,List.reduceReplicate,Nat.reduceAdd,Nat.reduceMul,Nat.reduceSub,Nat.reduceEqDiff,Nat.reduceLT,Nat.zero_add,Nat.add_zero,Nat.mul_one,Int.reduceToNat,Int.toNat_natCast,Int.cast_ofNat_Int,Int.reduceLE,Int.reduceLT,Int.reduceEq,reduceCtorEq,↓reduceIte,Bool.true_eq_false,Bool.false_eq_true,Bool.not_true,Bool.not_false,true_and,and_true,and_assoc,qaj,sub1,qc8,qc7,qc9,List.length_replicate,Nat.le_refl,false_implies,true_implies,ne_eq,not_true_eq_false,not_false_eq_true,decide_true,decide_false,decide_eq_true_eq,decide_eq_false_iff_not,Bool.not_eq_true',Bool.not_eq_false']
  obtain rfl : j = 4 := by omega
  have c1 : ¬((4 : Nat) : Int) < 4 := by omega
  have hlim := limbs hc
  obtain ⟨q, hqq⟩ : ∃ q, itr (qst cs) ((getI cs 0 + 19) / 2251799813685248) 4 = q := ⟨_, rfl⟩
  rw [hqq] at hq hlim
  rw [hqq]
  obtain ⟨w, hw⟩ : ∃ w, cs.set 0 (getI cs 0 + 19 * q) = w := ⟨_, rfl⟩
  rw [hw] at hlim
  have hwF : Fv 9223372036854775808 w := by
    rw [← hw]
    exact ⟨by simp [hcl], (hc.le (C := 9223372036854775808) (by decide)).2.set 0 (by omega) (by omega)⟩
  have hwl := hwF.1
  have w2 : Go.IntKind.u64.wrap (19 * q) = 19 * q := by rw [wrap_u64]; omega
  have w3 : Go.IntKind.u64.wrap (getI cs 0 + 19 * q) = getI cs 0 + 19 * q := by rw [wrap_u64]; omega
  simp only [c1,hcl,w2,w3,hw,qda,qc6,qaj,List.length_cons,List.length_nil,Nat.reduceAdd,Nat.le_refl,Nat.reduceLeDiff,Nat.reduceLT,true_and,and_true,↓qax,↓qay,↓qa0,↓qaz,↓qcs,↓qbj,↓qa1,↓qcl,↓qb3,↓qci,↓qcb,↓qce,↓qcf,↓qb4,↓qcd,↓qcj,↓qb5,↓qcg,↓qch,↓qb6,↓qcc,↓qca,↓qb9,↓qb8,↓qb7,↓qa5,↓qbc,↓qa6,↓qbd,↓qa7,↓qbe,↓qa8,↓qbf,↓qa9,↓qbg,↓qba,↓qbh,↓qbb,↓qbi,↓qb2,↓qck,↓qfc,↓qco,↓qcp,↓qcq,↓qcn,↓qcm,↓qbm,↓qbn,↓qb0,↓qbv,↓qbq,↓qbu,↓qbz,↓qbw,↓qby,↓qbx,↓qbr,↓qbp,↓qb1,↓qbs,↓qbt,↓qbo,↓qez,↓qey,↓qe3,↓qe5,↓qe4,↓qex,↓qew,↓qet,↓qeu,↓qe2,↓qe1,↓qe0,qc5,↓qeq,↓qer,↓qev,↓qc4,↓qc2,↓qc3,↓qe7,↓qe8,↓qe9,↓qe6,qaa,↓qes,↓qef,↓qeg,↓qfb,↓qfa,↓qei,↓qdk,↓qds,↓qd9,↓qea,↓qen,↓qeo,↓qdo,↓qdp,↓qdr,↓qdq,↓qdx,↓qep,↓qdv,↓qej,↓qdn,↓qed,↓qek,↓qel,↓qem,↓qd1,↓qd0,↓qd2,↓qd3,↓qd5,↓qdz,↓qd6,↓qd8,↓qd7,↓qdl,↓qdm,↓qdy,↓qaw,↓qdw,↓qee,↓qec,↓qdj,↓qeh,↓qeb,↓qd4,qav,List.drop_zero,Nat.sub_zero,qcy,qct,qcu,qdh,qat,qas,qaf,List.map_cons,List.map_nil,List.zip_cons_cons,List.zip_nil_right,List.zip_nil_left,qau,evs,evp,mkB,repB,blen,qae,qad,qac,qab,qc1,qc0,qdg,qdi,qde,qdf,qcx,qcz,qcv,qcw,↓qdc,↓qdb,↓qdd,↓qah,↓qag,↓qai,↓retQ,res,resAll,resOne,kill,apartOk,exp,injV,injB,pur,purs,purR,pursR,List.set_cons_zero,List.set_cons_succ,List.length_cons,List.length_nil,List.cons_append,List.nil_append,List.append_nil,List.append_assoc,List.length_append,List.reduceReplicate,Nat.reduceAdd,Nat.reduceMul,Nat.reduceSub,Nat.reduceEqDiff,Nat.reduceLT,Nat.zero_add,Nat.add_zero,Nat.mul_one,Int.reduceToNat,Int.toNat_natCast,Int.cast_ofNat_Int,Int.reduceLE,Int.reduceLT,Int.reduceEq,reduceCtorEq,↓reduceIte,Bool.true_eq_false,Bool.false_eq_true,Bool.not_true,Bool.not_false,true_and,and_true,and_assoc,qaj,sub1,qc8,qc7,qc9,List.length_replicate,Nat.le_refl,false_implies,true_implies,ne_eq,not_true_eq_false,not_false_eq_true,decide_true,decide_false,decide_eq_true_eq,decide_eq_false_iff_not,Bool.not_eq_true',Bool.not_eq_false']
  clear hK K hj hlt c1 w2 w3
  refine awp_loopA (n := 86) hA [1, 2, 6, 38] (by decide +kernel) (fun i : Nat => [.ptr 4 0, .ptr 5 0, .int .u64 (itr cst (w, 0) i).2, .int .i64 i])
    (fun i => [.dead, .dead, .dead, .dead, .ints false .u64 (itr cst (w, 0) i).1, .ints false .u8 (List.replicate 32 0)]) (fun i => i ≤ 5) (fun i => 5 - i) 0 ?_ (by omega) ?_
  · refine Hd.same ?_
    simp only [itr,↓qax,↓qay,↓qa0,↓qaz,↓qcs,↓qbj,↓qa1,↓qcl,↓qb3,↓qci,↓qcb,↓qce,↓qcf,↓qb4,↓qcd,↓qcj,↓qb5,↓qcg,↓qch,↓qb6,↓qcc,↓qca,↓qb9,↓qb8,↓qb7,↓qa5,↓qbc,↓qa6,↓qbd,↓qa7,↓qbe,↓qa8,↓qbf,↓qa9,↓qbg,↓qba,↓qbh,↓qbb,↓qbi,↓qb2,↓qck,↓qfc,↓qco,↓qcp,↓qcq,↓qcn,↓qcm,↓qbm,↓qbn,↓qb0,↓qbv,↓qbq,↓qbu,↓qbz,↓qbw,↓qby,↓qbx,↓qbr,↓qbp,↓qb1,↓qbs,↓qbt,↓qbo,↓qez,↓qey,↓qe3,↓qe5,↓qe4,↓qex,↓qew,↓qet,↓qeu,↓qe2,↓qe1,↓qe0,qc5,↓qeq,↓qer,↓qev,↓qc4,↓qc2,↓qc3,↓qe7,↓qe8,↓qe9,↓qe6,qaa,↓qes,↓qef,↓qeg,↓qfb,↓qfa,↓qei,↓qdk,↓qds,↓qd9,↓qea,↓qen,↓qeo,↓qdo,↓qdp,↓qdr,↓qdq,↓qdx,↓qep,↓qdv,↓qej,↓qdn,↓qed,↓qek,↓qel,↓qem,↓qd1,↓qd0,↓qd2,↓qd3,↓qd5,↓qdz,↓qd6,↓qd8,↓qd7,↓qdl,↓qdm,↓qdy,↓qaw,↓qdw,↓qee,↓qec,↓qdj,↓qeh,↓qeb,↓qd4,qav,List.drop_zero,Nat.sub_zero,qcy,qct,qcu,qdh,qat,qas,qaf,List.map_cons,List.map_nil,List.zip_cons_cons,List.zip_nil_right,List.zip_nil_left,qau,evs,evp,mkB,repB,blen,qae,qad,qac,qab,qc1,qc0,qdg,qdi,qde,qdf,qcx,qcz,qcv,qcw,↓qdc,↓qdb,↓qdd,↓qah,↓qag,↓qai,↓retQ,res,resAll,resOne,kill,apartOk,exp,injV,injB,pur,purs,purR,pursR,List.set_cons_zero,List.set_cons_succ,List.length_cons,List.length_nil,List.cons_append,List.nil_append,List.append_nil,List.append_assoc,List.length_append,List.reduceReplicate,Nat.reduceAdd,Nat.reduceMul,Nat.reduceSub,Nat.reduceEqDiff,Nat.reduceLT,Nat.zero_add,Nat.add_zero,Nat.mul_one,Int.reduceToNat,Int.toNat_natCast,Int.cast_ofNat_Int,Int.reduceLE,Int.reduceLT,Int.reduceEq,reduceCtorEq,↓reduceIte,Bool.true_eq_false,Bool.false_eq_true,Bool.not_true,Bool.not_false,true_and,and_true,and_assoc,qaj,sub1,qc8,qc7,qc9,List.length_replicate,Nat.le_refl,false_implies,true_implies,ne_eq,not_true_eq_false,not_false_eq_true,decide_true,decide_false,decide_eq_true_eq,decide_eq_false_iff_not,Bool.not_eq_true',Bool.not_eq_false']
  intro i hi K hK
  obtain ⟨⟨hl, hD⟩, hc0, hc1⟩ := cst_inv hwF i
  by_cases hlt : i < 5
  · have c1 : (i : Int) < 5 := by omega
    have wi : Go.IntKind.i64.wrap ((i : Int) + 1) = ((i + 1 : Nat) : Int) := by rw [wrap_i64]; omega
    have hj : itr cst (w, 0) (i + 1) = cst (itr cst (w, 0) i) i := by rw [itr]
    obtain ⟨⟨v, c⟩, hv⟩ : ∃ v, itr cst (w, 0) i = v := ⟨_, rfl⟩
    rw [hv] at hl hj hD hc0 hc1
    rw [hv]
    simp only at hl hD hc0 hc1
    have hg := hD.all (by decide) i
    have w1 : Go.IntKind.u64.wrap (getI v i + c) = getI v i + c := by rw [wrap_u64]; omega
    have hset : getI (v.set i (getI v i + c)) i = getI v i + c := by rw [getI_set _ _ _ _ (by omega), if_pos rfl]
    have w2 : iShr .u64 (getI v i + c) 51 = (getI v i + c) / 2251799813685248 := shr_51 _
    have w3 : bAnd .u64 (getI v i + c) 2251799813685247 = (getI v i + c) % 2251799813685248 := bAnd_51 (by omega) (by omega)
    have w4 : ∀ (a b : Int), (v.set i a).set i b = v.set i b := fun a b => List.set_set ..
    simp only [c1,wi,hl,w1,w2,w3,w4,hset,List.length_set,qda,qc6,qaj,List.length_cons,List.length_nil,Nat.reduceAdd,Nat.le_refl,Nat.reduceLeDiff,Nat.reduceLT,true_and,and_true,↓qax,↓qay,↓qa0,↓qaz,↓qcs,↓qbj,↓qa1,↓qcl,↓qb3,↓qci,↓qcb,↓qce,↓qcf,↓qb4,↓qcd,↓qcj,↓qb5,↓qcg,↓qch,↓qb6,↓qcc,↓qca,↓qb9,↓qb8,↓qb7,↓qa5,↓qbc,↓qa6,↓qbd,↓qa7,↓qbe,↓qa8,↓qbf,↓qa9,↓qbg,↓qba,↓qbh,↓qbb,↓qbi,↓qb2,↓qck,↓qfc,↓qco,↓qcp,↓qcq,↓qcn,↓qcm,↓qbm,↓qbn,↓qb0,↓qbv,↓qbq,↓qbu,↓qbz,↓qbw,↓qby,↓qbx,↓qbr,↓qbp,↓qb1,↓qbs,↓qbt,↓qbo,↓qez,↓qey,↓qe3,↓qe5,↓qe4,↓qex,↓qew,↓qet,↓qeu,↓qe2,↓qe1,↓qe0,qc5,↓qeq,↓qer,↓qev,↓qc4,↓qc2,↓qc3,↓qe7,↓qe8,↓qe9,↓qe6,qaa,↓qes,↓qef,↓qeg,↓qfb,↓qfa,↓qei,↓qdk,↓qds,↓qd9,↓qea,↓qen,↓qeo,↓qdo,↓qdp,↓qdr,↓qdq,↓qdx,↓qep,↓qdv,↓qej,↓qdn,↓qed,↓qek,↓qel,↓qem,↓qd1,↓qd0,↓qd2,↓qd3,↓qd5,↓qdz,↓qd6,↓qd8,↓qd7,↓qdl,↓qdm,↓qdy,↓qaw,↓qdw,↓qee,↓qec,↓qdj,↓qeh,↓qeb,↓qd4,qav,List.drop_zero,Nat.sub_zero,qcy,qct,qcu,qdh,qat,qas,qaf,List.map_cons,List.map_nil,List.zip_cons_cons,List.zip_nil_right,List.zip_nil_left,qau,evs,evp,mkB,repB,blen,qae,qad,qac,qab,qc1,qc0,qdg,qdi,qde,qdf,qcx,qcz,qcv,qcw,↓qdc,↓qdb,↓qdd,↓qah,↓qag,↓qai,↓retQ,res,resAll,resOne,kill,apartOk,exp,injV,injB,pur,purs,purR,pursR,List.set_cons_zero,List.set_cons_succ,List.length_cons,List.length_nil,List.cons_append,List.nil_append,List.append_nil,List.append_assoc,List.length_append,List.reduceReplicate,Nat.reduceAdd,Nat.reduceMul,Nat.reduceSub,Nat.reduceEqDiff,Nat.reduceLT,Nat.zero_add,Nat.add_zero,Nat.mul_one,Int.reduceToNat,Int.toNat_natCast,Int.cast_ofNat_Int,Int.reduceLE,Int.reduceLT,Int.reduceEq,reduceCtorEq,↓reduceIte,Bool.true_eq_false,Bool.false_eq_true,Bool.not_true,Bool.not_false,true_and,and_true,and_assoc,qaj,sub1,qc8,qc7,qc9,List.length_replicate,Nat.le_refl,false_implies,true_implies,ne_eq,not_true_eq_false,not_false_eq_true,decide_true,decide_false,decide_eq_true_eq,decide_eq_false_iff_not,Bool.not_eq_true',Bool.not_eq_false']
    repeat (refine And.intro (by omega) ?_)
    refine ⟨i + 1, hK _ (by omega) (by omega), Hd.same ?_⟩
    simp only [hj,cst,↓qax,↓qay,↓qa0,↓qaz,↓qcs,↓qbj,↓qa1,↓qcl,↓qb3,↓qci,↓qcb,↓qce,↓qcf,↓qb4,↓qcd,↓qcj,↓qb5,↓qcg,↓qch,↓qb6,↓qcc,↓qca,↓qb9,↓qb8,↓qb7,↓qa5,↓qbc,↓qa6,↓qbd,↓qa7,↓qbe,↓qa8,↓qbf,↓qa9,↓qbg,↓qba,↓qbh,↓qbb,↓qbi,↓qb2,↓qck,↓qfc,↓qco,↓qcp,↓qcq,↓qcn,↓qcm,↓qbm,↓qbn,↓qb0,↓qbv,↓qbq,↓qbu,↓qbz,↓qbw,↓qby,↓qbx,↓qbr,↓qbp,↓qb1,↓qbs,↓qbt,↓qbo,↓qez,↓qey,↓qe3,↓qe5,↓qe4,↓qex,↓qew,↓qet,↓qeu,↓qe2,↓qe1,↓qe0,qc5,↓qeq,↓qer,↓qev,↓qc4,↓qc2,↓qc3,↓qe7,↓qe8,↓qe9,↓qe6,qaa,↓qes,↓qef,↓qeg,↓qfb,↓qfa,↓qei,↓qdk,↓qds,↓qd9,↓qea,↓qen,↓qeo,↓qdo,↓qdp,↓qdr,↓qdq,↓qdx,↓qep,↓qdv,↓qej,↓qdn,↓qed,↓qek,↓qel,↓qem,↓qd1,↓qd0,↓qd2,↓qd3,↓qd5,↓qdz,↓qd6,↓qd8,↓qd7,↓qdl,↓qdm,↓qdy,↓qaw,↓qdw,↓qee,↓qec,↓qdj,↓qeh,↓qeb,↓qd4,qav,List.drop_zero,Nat.sub_zero,qcy,qct,qcu,qdh,qat,qas,qaf,List.map_cons,List.map_nil,List.zip_cons_cons,List.zip_nil_right,List.zip_nil_left,qau,evs,evp,mkB,repB,blen,qae,qad,qac,qab,qc1,qc0,qdg,qdi,qde,qdf,qcx,qcz,qcv,qcw,↓qdc,↓qdb,↓qdd,↓qah,↓qag,↓qai,↓retQ,res,resAll,resOne,kill,apartOk,exp,injV,injB,pur,purs,purR,pursR,List.set_cons_zero,List.set_cons_succ,List.length_cons,List.length_nil,List.cons_append,List.nil_append,List.append_nil,List.append_assoc,List.length_append,List.reduceReplicate,Nat.reduceAdd,Nat.reduceMul,Nat.reduceSub,Nat.reduceEqDiff,Nat.reduceLT,Nat.zero_add,Nat.add_zero,Nat.mul_one,Int.reduceToNat,Int.toNat_natCast,Int.cast_ofNat_Int,Int.reduceLE,Int.reduceLT,Int.reduceEq,reduceCtorEq,↓reduceIte,Bool.true_eq_false,Bool.false_eq_true,Bool.not_true,Bool.not_false,true_and,and_true,and_assoc,qaj,sub1,qc8,qc7,qc9,List.length_replicate,Nat.le_refl,false_implies,true_implies,ne_eq,not_true_eq_false,not_false_eq_true,decide_true,decide_false,decide_eq_true_eq,decide_eq_false_iff_not,Bool.not_eq_true',Bool.not_eq_false']
  obtain rfl : i = 5 := by omega
  have c1 : ¬((5 : Nat) : Int) < 5 := by omega
  obtain ⟨V, hV⟩ : ∃ V, ev5 cs % Pp = V := ⟨_, rfl⟩
  rw [hV] at hlim hb
  have hV0 : 0 ≤ V ∧ V < 57896044618658097711785492504343953926634992332820282019728792003956564819949 := by rw [← hV]; unfold Pp; omega
  rw [hlim]
  obtain ⟨L, hL⟩ : ∃ L, dig 2251799813685248 5 V = L := ⟨_, rfl⟩
  have hLl : L.length = 5 := by rw [← hL, qaj]
  have hLd : Dig 2251799813685248 L := by rw [← hL]; exact dig_dig (by decide) _ _
  have hLv : ev5 L = V := by rw [← hL]; exact val_dig (by decide) hV0.1 (Int.lt_trans hV0.2 (by decide))
  rw [hL]
  simp only [c1,qda,qc6,qaj,List.length_cons,List.length_nil,Nat.reduceAdd,Nat.le_refl,Nat.reduceLeDiff,Nat.reduceLT,true_and,and_true,↓qax,↓qay,↓qa0,↓qaz,↓qcs,↓qbj,↓qa1,↓qcl,↓qb3,↓qci,↓qcb,↓qce,↓qcf,↓qb4,↓qcd,↓qcj,↓qb5,↓qcg,↓qch,↓qb6,↓qcc,↓qca,↓qb9,↓qb8,↓qb7,↓qa5,↓qbc,↓qa6,↓qbd,↓qa7,↓qbe,↓qa8,↓qbf,↓qa9,↓qbg,↓qba,↓qbh,↓qbb,↓qbi,↓qb2,↓qck,↓qfc,↓qco,↓qcp,↓qcq,↓qcn,↓qcm,↓qbm,↓qbn,↓qb0,↓qbv,↓qbq,↓qbu,↓qbz,↓qbw,↓qby,↓qbx,↓qbr,↓qbp,↓qb1,↓qbs,↓qbt,↓qbo,↓qez,↓qey,↓qe3,↓qe5,↓qe4,↓qex,↓qew,↓qet,↓qeu,↓qe2,↓qe1,↓qe0,qc5,↓qeq,↓qer,↓qev,↓qc4,↓qc2,↓qc3,↓qe7,↓qe8,↓qe9,↓qe6,qaa,↓qes,↓qef,↓qeg,↓qfb,↓qfa,↓qei,↓qdk,↓qds,↓qd9,↓qea,↓qen,↓qeo,↓qdo,↓qdp,↓qdr,↓qdq,↓qdx,↓qep,↓qdv,↓qej,↓qdn,↓qed,↓qek,↓qel,↓qem,↓qd1,↓qd0,↓qd2,↓qd3,↓qd5,↓qdz,↓qd6,↓qd8,↓qd7,↓qdl,↓qdm,↓qdy,↓qaw,↓qdw,↓qee,↓qec,↓qdj,↓qeh,↓qeb,↓qd4,qav,List.drop_zero,Nat.sub_zero,qcy,qct,qcu,qdh,qat,qas,qaf,List.map_cons,List.map_nil,List.zip_cons_cons,List.zip_nil_right,List.zip_nil_left,qau,evs,evp,mkB,repB,blen,qae,qad,qac,qab,qc1,qc0,qdg,qdi,qde,qdf,qcx,qcz,qcv,qcw,↓qdc,↓qdb,↓qdd,↓qah,↓qag,↓qai,↓retQ,res,resAll,resOne,kill,apartOk,exp,injV,injB,pur,purs,purR,pursR,List.set_cons_zero,List.set_cons_succ,List.length_cons,List.length_nil,List.cons_append,List.nil_append,List.append_nil,List.append_assoc,List.length_append,List.reduceReplicate,Nat.reduceAdd,Nat.reduceMul,Nat.reduceSub,Nat.reduceEqDiff,Nat.reduceLT,Nat.zero_add,Nat.add_zero,Nat.mul_one,Int.reduceToNat,Int.toNat_natCast,Int.cast_ofNat_Int,Int.reduceLE,Int.reduceLT,Int.reduceEq,reduceCtorEq,↓reduceIte,Bool.true_eq_false,Bool.false_eq_true,Bool.not_true,Bool.not_false,true_and,and_true,and_assoc,qaj,sub1,qc8,qc7,qc9,List.length_replicate,Nat.le_refl,false_implies,true_implies,ne_eq,not_true_eq_false,not_false_eq_true,decide_true,decide_false,decide_eq_true_eq,decide_eq_false_iff_not,Bool.not_eq_true',Bool.not_eq_false']
  clear hK K hi hlt c1 hl hD hc0 hc1
  refine awp_loopA (n := 86) hA [1, 2, 8, 62] (by decide +kernel) (fun i : Nat => [.ptr 4 0, .ptr 5 0, .ptr 6 0, .int .i64 i])
    (fun i => [.dead, .dead, .dead, .dead, .ints false .u64 L, .ints false .u8 (List.replicate 32 0), .ints false .u8 (dig 256 32 (V % 2 ^ i))]) (fun i => i ≤ 255) (fun i => 255 - i) 0 ?_ (by omega) ?_
  · refine Hd.same ?_
    have e0 : V % 2 ^ 0 = 0 := by simp [Int.emod_one]
    simp only [e0,dig_zero,↓qax,↓qay,↓qa0,↓qaz,↓qcs,↓qbj,↓qa1,↓qcl,↓qb3,↓qci,↓qcb,↓qce,↓qcf,↓qb4,↓qcd,↓qcj,↓qb5,↓qcg,↓qch,↓qb6,↓qcc,↓qca,↓qb9,↓qb8,↓qb7,↓qa5,↓qbc,↓qa6,↓qbd,↓qa7,↓qbe,↓qa8,↓qbf,↓qa9,↓qbg,↓qba,↓qbh,↓qbb,↓qbi,↓qb2,↓qck,↓qfc,↓qco,↓qcp,↓qcq,↓qcn,↓qcm,↓qbm,↓qbn,↓qb0,↓qbv,↓qbq,↓qbu,↓qbz,↓qbw,↓qby,↓qbx,↓qbr,↓qbp,↓qb1,↓qbs,↓qbt,↓qbo,↓qez,↓qey,↓qe3,↓qe5,↓qe4,↓qex,↓qew,↓qet,↓qeu,↓qe2,↓qe1,↓qe0,qc5,↓qeq,↓qer,↓qev,↓qc4,↓qc2,↓qc3,↓qe7,↓qe8,↓qe9,↓qe6,qaa,↓qes,↓qef,↓qeg,↓qfb,↓qfa,↓qei,↓qdk,↓qds,↓qd9,↓qea,↓qen,↓qeo,↓qdo,↓qdp,↓qdr,↓qdq,↓qdx,↓qep,↓qdv,↓qej,↓qdn,↓qed,↓qek,↓qel,↓qem,↓qd1,↓qd0,↓qd2,↓qd3,↓qd5,↓qdz,↓qd6,↓qd8,↓qd7,↓qdl,↓qdm,↓qdy,↓qaw,↓qdw,↓qee,↓qec,↓qdj,↓qeh,↓qeb,↓qd4,qav,List.drop_zero,Nat.sub_zero,qcy,qct,qcu,qdh,qat,qas,qaf,List.map_cons,List.map_nil,List.zip_cons_cons,List.zip_nil_right,List.zip_nil_left,qau,evs,evp,mkB,repB,blen,qae,qad,qac,qab,qc1,qc0,qdg,qdi,qde,qdf,qcx,qcz,qcv,qcw,↓qdc,↓qdb,↓qdd,↓qah,↓qag,↓qai,↓retQ,res,resAll,resOne,kill,apartOk,exp,injV,injB,pur,purs,purR,pursR,List.set_cons_zero,List.set_cons_succ,List.length_cons,List.length_nil,List.cons_append,List.nil_append,List.append_nil,List.append_assoc,List.length_append,List.reduceReplicate,Nat.reduceAdd,Nat.reduceMul,Nat.reduceSub,Nat.reduceEqDiff,Nat.reduceLT,Nat.zero_add,Nat.add_zero,Nat.mul_one,Int.reduceToNat,Int.toNat_natCast,Int.cast_ofNat_Int,Int.reduceLE,Int.reduceLT,Int.reduceEq,reduceCtorEq,↓reduceIte,Bool.true_eq_false,Bool.false_eq_true,Bool.not_true,Bool.not_false,true_and,and_true,and_assoc,qaj,sub1,qc8,qc7,qc9,List.length_replicate,Nat.le_refl,false_implies,true_implies,ne_eq,not_true_eq_false,not_false_eq_true,decide_true,decide_false,decide_eq_true_eq,decide_eq_false_iff_not,Bool.not_eq_true',Bool.not_eq_false']
  intro i hi K hK
  by_cases hlt : i < 255
  · have c1 : (i : Int) < 255 := by omega
    have wi : Go.IntKind.i64.wrap ((i : Int) + 1) = ((i + 1 : Nat) : Int) := by rw [wrap_i64]; omega
    have hst := bit_step (V := V) (n := 32) (i := i) (by omega)
    have hbit := bit_of51 hLd i
    rw [hLv] at hbit
    have hg := hLd.all (by decide) (i / 51)
    have d8 := w64_div8 (i := i) (by omega)
    have d51 := w64_div51 (i := i) (by omega)
    obtain ⟨t, ht⟩ : ∃ t, V / 2 ^ i % 2 = t := ⟨_, rfl⟩
    have ht01 : t = 0 ∨ t = 1 := by omega
    rw [ht] at hst hbit
    have hp51 : (0 : Int) < 2 ^ (i % 51) := Int.pow_pos (by decide)
    have u1 : iShr .u64 (getI L (i / 51)) ((i % 51 : Nat) : Int) = getI L (i / 51) / 2 ^ (i % 51) := shr_u64 _ (by omega)
    have u2 : bAnd .u64 (getI L (i / 51) / 2 ^ (i % 51)) 1 = t := by
      rw [bAnd_one64 (Int.ediv_nonneg hg.1 (by omega)) (Int.lt_of_le_of_lt (Int.ediv_le_self _ hg.1) (by omega)), hbit]
    have u3 : Go.IntKind.u8.wrap t = t := by rw [wrap_u8]; omega
    have hp8 : (0 : Int) < 256 ^ (i / 8) := Int.pow_pos (by decide)
    have hold : getI (dig 256 32 (V % 2 ^ i)) (i / 8) = V % 2 ^ i / 256 ^ (i / 8) % 256 := getI_dig (by decide) (by omega)
    have hpi : (0 : Int) < 2 ^ i := Int.pow_pos (by decide)
    have e : (2 : Int) ^ i = 256 ^ (i / 8) * 2 ^ (i % 8) := by
      conv => lhs; rw [← Nat.div_add_mod i 8, Int.pow_add, Int.pow_mul]
      rfl
    have hb2 : V % 2 ^ i / 256 ^ (i / 8) < 2 ^ (i % 8) := Int.ediv_lt_of_lt_mul hp8 (by rw [Int.mul_comm, ← e]; exact Int.emod_lt_of_pos _ hpi)
    have hb0 : 0 ≤ V % 2 ^ i / 256 ^ (i / 8) := Int.ediv_nonneg (Int.emod_nonneg _ (by omega)) (Int.le_of_lt hp8)
    have hlast : 0 ≤ getI (dig 256 32 (V % 2 ^ i)) (i / 8) ∧ getI (dig 256 32 (V % 2 ^ i)) (i / 8) < 2 ^ (i % 8) := by
      have hr : ∀ r, r < 8 → (2 : Int) ^ r ≤ 128 := by decide
      have hr8 := hr (i % 8) (Nat.mod_lt _ (by decide))
      rw [hold, Int.emod_eq_of_lt hb0 (by omega)]
      exact ⟨hb0, hb2⟩
    have u4 : bOr .u8 (getI (dig 256 32 (V % 2 ^ i)) (i / 8)) (iShl .u8 t ((i % 8 : Nat) : Int)) = getI (dig 256 32 (V % 2 ^ i)) (i / 8) + t * 2 ^ (i % 8) := or_bit hlast.1 hlast.2 ht01 (by omega)
    simp only [c1,wi,hLl,d8,d51,tmod51,tmod8,u1,u2,u3,u4,hst,qda,qc6,qaj,List.length_cons,List.length_nil,Nat.reduceAdd,Nat.le_refl,Nat.reduceLeDiff,Nat.reduceLT,true_and,and_true,↓qax,↓qay,↓qa0,↓qaz,↓qcs,↓qbj,↓qa1,↓qcl,↓qb3,↓qci,↓qcb,↓qce,↓qcf,↓qb4,↓qcd,↓qcj,↓qb5,↓qcg,↓qch,↓qb6,↓qcc,↓qca,↓qb9,↓qb8,↓qb7,↓qa5,↓qbc,↓qa6,↓qbd,↓qa7,↓qbe,↓qa8,↓qbf,↓qa9,↓qbg,↓qba,↓qbh,↓qbb,↓qbi,↓qb2,↓qck,↓qfc,↓qco,↓qcp,↓qcq,↓qcn,↓qcm,↓qbm,↓qbn,↓qb0,↓qbv,↓qbq,↓qbu,↓qbz,↓qbw,↓qby,↓qbx,↓qbr,↓qbp,↓qb1,↓qbs,↓qbt,↓qbo,↓qez,↓qey,↓qe3,↓qe5,↓qe4,↓qex,↓qew,↓qet,↓qeu,↓qe2,↓qe1,↓qe0,qc5,↓qeq,↓qer,↓qev,↓qc4,↓qc2,↓qc3,↓qe7,↓qe8,↓qe9,↓qe6,qaa,↓qes,↓qef,↓qeg,↓qfb,↓qfa,↓qei,↓qdk,↓qds,↓qd9,↓qea,↓qen,↓qeo,↓qdo,↓qdp,↓qdr,↓qdq,↓qdx,↓qep,↓qdv,↓qej,↓qdn,↓qed,↓qek,↓qel,↓qem,↓qd1,↓qd0,↓qd2,↓qd3,↓qd5,↓qdz,↓qd6,↓qd8,↓qd7,↓qdl,↓qdm,↓qdy,↓qaw,↓qdw,↓qee,↓qec,↓qdj,↓qeh,↓qeb,↓qd4,qav,List.drop_zero,Nat.sub_zero,qcy,qct,qcu,qdh,qat,qas,qaf,List.map_cons,List.map_nil,List.zip_cons_cons,List.zip_nil_right,List.zip_nil_left,qau,evs,evp,mkB,repB,blen,qae,qad,qac,qab,qc1,qc0,qdg,qdi,qde,qdf,qcx,qcz,qcv,qcw,↓qdc,↓qdb,↓qdd,↓qah,↓qag,↓qai,↓retQ,res,resAll,resOne,kill,apartOk,exp,injV,injB,pur,purs,purR,pursR,List.set_cons_zero,List.set_cons_succ,List.length_cons,List.length_nil,List.cons_append,List.nil_append,List.append_nil,List.append_assoc,List.length_append,List.reduceReplicate,Nat.reduceAdd,Nat.reduceMul,Nat.reduceSub,Nat.reduceEqDiff,Nat.reduceLT,Nat.zero_add,Nat.add_zero,Nat.mul_one,Int.reduceToNat,Int.toNat_natCast,Int.cast_ofNat_Int,Int.reduceLE,Int.reduceLT,Int.reduceEq,reduceCtorEq,↓reduceIte,Bool.true_eq_false,Bool.false_eq_true,Bool.not_true,Bool.not_false,true_and,and_true,and_assoc,qaj,sub1,qc8,qc7,qc9,List.length_replicate,Nat.le_refl,false_implies,true_implies,ne_eq,not_true_eq_false,not_false_eq_true,decide_true,decide_false,decide_eq_true_eq,decide_eq_false_iff_not,Bool.not_eq_true',Bool.not_eq_false']
    repeat (refine And.intro (by omega) ?_)
    refine ⟨i + 1, hK _ (by omega) (by omega), Hd.same ?_⟩
    simp only [↓qax,↓qay,↓qa0,↓qaz,↓qcs,↓qbj,↓qa1,↓qcl,↓qb3,↓qci,↓qcb,↓qce,↓qcf,↓qb4,↓qcd,↓qcj,↓qb5,↓qcg,↓qch,↓qb6,↓qcc,↓qca,↓qb9,↓qb8,↓qb7,↓qa5,↓qbc,↓qa6,↓qbd,↓qa7,↓qbe,↓qa8,↓qbf,↓qa9,↓qbg,↓qba,↓qbh,↓qbb,↓qbi,↓qb2,↓qck,↓qfc,↓qco,↓qcp,↓qcq,↓qcn,↓qcm,↓qbm,↓qbn,↓qb0,↓qbv,↓qbq,↓qbu,↓qbz,↓qbw,↓qby,↓qbx,↓qbr,↓qbp,↓qb1,↓qbs,↓qbt,↓qbo,↓qez,↓qey,↓qe3,↓qe5,↓qe4,↓qex,↓qew,↓qet,↓qeu,↓qe2,↓qe1,↓qe0,qc5,↓qeq,↓qer,↓qev,↓qc4,↓qc2,↓qc3,↓qe7,↓qe8,↓qe9,↓qe6,qaa,↓qes,↓qef,↓qeg,↓qfb,↓qfa,↓qei,↓qdk,↓qds,↓qd9,↓qea,↓qen,↓qeo,↓qdo,↓qdp,↓qdr,↓qdq,↓qdx,↓qep,↓qdv,↓qej,↓qdn,↓qed,↓qek,↓qel,↓qem,↓qd1,↓qd0,↓qd2,↓qd3,↓qd5,↓qdz,↓qd6,↓qd8,↓qd7,↓qdl,↓qdm,↓qdy,↓qaw,↓qdw,↓qee,↓qec,↓qdj,↓qeh,↓qeb,↓qd4,qav,List.drop_zero,Nat.sub_zero,qcy,qct,qcu,qdh,qat,qas,qaf,List.map_cons,List.map_nil,List.zip_cons_cons,List.zip_nil_right,List.zip_nil_left,qau,evs,evp,mkB,repB,blen,qae,qad,qac,qab,qc1,qc0,qdg,qdi,qde,qdf,qcx,qcz,qcv,qcw,↓qdc,↓qdb,↓qdd,↓qah,↓qag,↓qai,↓retQ,res,resAll,resOne,kill,apartOk,exp,injV,injB,pur,purs,purR,pursR,List.set_cons_zero,List.set_cons_succ,List.length_cons,List.length_nil,List.cons_append,List.nil_append,List.append_nil,List.append_assoc,List.length_append,List.reduceReplicate,Nat.reduceAdd,Nat.reduceMul,Nat.reduceSub,Nat.reduceEqDiff,Nat.reduceLT,Nat.zero_add,Nat.add_zero,Nat.mul_one,Int.reduceToNat,Int.toNat_natCast,Int.cast_ofNat_Int,Int.reduceLE,Int.reduceLT,Int.reduceEq,reduceCtorEq,↓reduceIte,Bool.true_eq_false,Bool.false_eq_true,Bool.not_true,Bool.not_false,true_and,and_true,and_assoc,qaj,sub1,qc8,qc7,qc9,List.length_replicate,Nat.le_refl,false_implies,true_implies,ne_eq,not_true_eq_false,not_false_eq_true,decide_true,decide_false,decide_eq_true_eq,decide_eq_false_iff_not,Bool.not_eq_true',Bool.not_eq_false']
  obtain rfl : i = 255 := by omega
  have c1 : ¬((255 : Nat) : Int) < 255 := by omega
  have hV2 : V % 2 ^ 255 = V := by
    have : (57896044618658097711785492504343953926634992332820282019728792003956564819949 : Int) < 2 ^ 255 := by decide
    exact Int.emod_eq_of_lt hV0.1 (by omega)
  have sp1 : spl (List.replicate 32 0) 0 (dig 256 32 V) = dig 256 32 V := qc6 (by simp [qaj])
  simp only [c1,hV2,sp1,hb,qda,qc6,qaj,List.length_cons,List.length_nil,Nat.reduceAdd,Nat.le_refl,Nat.reduceLeDiff,Nat.reduceLT,true_and,and_true,↓qax,↓qay,↓qa0,↓qaz,↓qcs,↓qbj,↓qa1,↓qcl,↓qb3,↓qci,↓qcb,↓qce,↓qcf,↓qb4,↓qcd,↓qcj,↓qb5,↓qcg,↓qch,↓qb6,↓qcc,↓qca,↓qb9,↓qb8,↓qb7,↓qa5,↓qbc,↓qa6,↓qbd,↓qa7,↓qbe,↓qa8,↓qbf,↓qa9,↓qbg,↓qba,↓qbh,↓qbb,↓qbi,↓qb2,↓qck,↓qfc,↓qco,↓qcp,↓qcq,↓qcn,↓qcm,↓qbm,↓qbn,↓qb0,↓qbv,↓qbq,↓qbu,↓qbz,↓qbw,↓qby,↓qbx,↓qbr,↓qbp,↓qb1,↓qbs,↓qbt,↓qbo,↓qez,↓qey,↓qe3,↓qe5,↓qe4,↓qex,↓qew,↓qet,↓qeu,↓qe2,↓qe1,↓qe0,qc5,↓qeq,↓qer,↓qev,↓qc4,↓qc2,↓qc3,↓qe7,↓qe8,↓qe9,↓qe6,qaa,↓qes,↓qef,↓qeg,↓qfb,↓qfa,↓qei,↓qdk,↓qds,↓qd9,↓qea,↓qen,↓qeo,↓qdo,↓qdp,↓qdr,↓qdq,↓qdx,↓qep,↓qdv,↓qej,↓qdn,↓qed,↓qek,↓qel,↓qem,↓qd1,↓qd0,↓qd2,↓qd3,↓qd5,↓qdz,↓qd6,↓qd8,↓qd7,↓qdl,↓qdm,↓qdy,↓qaw,↓qdw,↓qee,↓qec,↓qdj,↓qeh,↓qeb,↓qd4,qav,List.drop_zero,Nat.sub_zero,qcy,qct,qcu,qdh,qat,qas,qaf,List.map_cons,List.map_nil,List.zip_cons_cons,List.zip_nil_right,List.zip_nil_left,qau,evs,evp,mkB,repB,blen,qae,qad,qac,qab,qc1,qc0,qdg,qdi,qde,qdf,qcx,qcz,qcv,qcw,↓qdc,↓qdb,↓qdd,↓qah,↓qag,↓qai,↓retQ,res,resAll,resOne,kill,apartOk,exp,injV,injB,pur,purs,purR,pursR,List.set_cons_zero,List.set_cons_succ,List.length_cons,List.length_nil,List.cons_append,List.nil_append,List.append_nil,List.append_assoc,List.length_append,List.reduceReplicate,Nat.reduceAdd,Nat.reduceMul,Nat.reduceSub,Nat.reduceEqDiff,Nat.reduceLT,Nat.zero_add,Nat.add_zero,Nat.mul_one,Int.reduceToNat,Int.toNat_natCast,Int.cast_ofNat_Int,Int.reduceLE,Int.reduceLT,Int.reduceEq,reduceCtorEq,↓reduceIte,Bool.true_eq_false,Bool.false_eq_true,Bool.not_true,Bool.not_false,true_and,and_true,and_assoc,qaj,sub1,qc8,qc7,qc9,List.length_replicate,Nat.le_refl,false_implies,true_implies,ne_eq,not_true_eq_false,not_false_eq_true,decide_true,decide_false,decide_eq_true_eq,decide_eq_false_iff_not,Bool.not_eq_true',Bool.not_eq_false']
  repeat (refine And.intro (by omega) ?_)
  simp only [out, outs, out1, pur, and_self]
end Am
