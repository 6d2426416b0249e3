/-
Working texts: contracts of functions, and the numbers behind them.
-/
import Derived.Test.YtkchoojcficjgaaFiE
import Derived.Test.YtkchoojcficjgaaFiF
set_option linter.unusedSimpArgs false
set_option linter.unusedVariables false
set_option linter.unusedSectionVars false
set_option linter.unusedSimpArgs false
set_option linter.unusedVariables false
set_option maxRecDepth 20000
namespace Am
/-! ### What the five parts stand for -/
theorem carry_56 {xs : List Int} (h : Fv 72057594037927936 xs) : Fv 4503599627370496 (carryF xs) := by
  obtain ⟨a, b, c, d, e, rfl⟩ := list5 h.1
  have ha : 0 ≤ a ∧ a < 72057594037927936 := h.all (by decide) 0
  have hb : 0 ≤ b ∧ b < 72057594037927936 := h.all (by decide) 1
  have hc : 0 ≤ c ∧ c < 72057594037927936 := h.all (by decide) 2
  have hd : 0 ≤ d ∧ d < 72057594037927936 := h.all (by decide) 3
  have he : 0 ≤ e ∧ e < 72057594037927936 := h.all (by decide) 4
  rw [carry_ex]
  obtain ⟨p, hp⟩ : ∃ p, (a + 0) / 2251799813685248 = p := ⟨_, rfl⟩
  obtain ⟨q, hq⟩ : ∃ q, (b + p) / 2251799813685248 = q := ⟨_, rfl⟩
  obtain ⟨r, hr⟩ : ∃ r, (c + q) / 2251799813685248 = r := ⟨_, rfl⟩
  obtain ⟨s, hs⟩ : ∃ s, (d + r) / 2251799813685248 = s := ⟨_, rfl⟩
  obtain ⟨t, ht⟩ : ∃ t, (e + s) / 2251799813685248 = t := ⟨_, rfl⟩
  have p1 : 0 ≤ p ∧ p ≤ 33 := by omega
  have q1 : 0 ≤ q ∧ q ≤ 33 := by omega
  have r1 : 0 ≤ r ∧ r ≤ 33 := by omega
  have s1 : 0 ≤ s ∧ s ≤ 33 := by omega
  have t1 : 0 ≤ t ∧ t ≤ 33 := by omega
  rw [hp, hq, hr, hs, ht]
  refine ⟨rfl, fun x hx => ?_⟩
  simp only [List.mem_cons, List.not_mem_nil, or_false] at hx
  rcases hx with rfl | rfl | rfl | rfl | rfl <;> omega
def El (xs : List Int) (n : Int) : Prop := Fv 4503599627370496 xs ∧ ev5 xs % Pp = n
theorem El.of {xs : List Int} (h : Fv 4503599627370496 xs) : El xs (ev5 xs % Pp) := ⟨h, rfl⟩
theorem El.bytes {xs : List Int} {n : Int} (h : El xs n) : bytesF xs = dig 256 32 n := by rw [bytesF, h.2]
theorem El.bd {xs : List Int} {n : Int} (h : El xs n) : 0 ≤ n ∧ n < Pp := by rw [← h.2]; exact ⟨Int.emod_nonneg _ (by decide), Int.emod_lt_of_pos _ (by decide)⟩
theorem El.len {xs : List Int} {n : Int} (h : El xs n) : xs.length = 5 := h.1.1
theorem mod_eq {a b n : Int} (t : Int) (h : a = b + t * Pp) (hb : b % Pp = n) : a % Pp = n := by rw [h, Int.add_mul_emod_self_right, hb]
theorem mod_add {x y a b : Int} (hx : x % Pp = a) (hy : y % Pp = b) : (x + y) % Pp = (a + b) % Pp := by rw [← hx, ← hy, Int.emod_add_emod, Int.add_emod_emod]
theorem mod_sub {x y a b : Int} (hx : x % Pp = a) (hy : y % Pp = b) : (x - y) % Pp = (a - b) % Pp := by rw [← hx, ← hy, Int.emod_sub_emod, Int.sub_emod_emod]
theorem mod_mul {x y a b : Int} (hx : x % Pp = a) (hy : y % Pp = b) : (x * y) % Pp = (a * b) % Pp := by rw [← hx, ← hy, ← Int.mul_emod]
theorem carry_el {xs : List Int} (h : Fv 72057594037927936 xs) {n : Int} (hn : ev5 xs % Pp = n) : El (carryF xs) n := by
  refine ⟨carry_56 h, ?_⟩
  rw [ev_mod h.1, hn]
theorem add_el {xs ys : List Int} {a b : Int} (hx : El xs a) (hy : El ys b) : El (addF xs ys) ((a + b) % Pp) := by
  refine carry_el ((add_get hx.1 hy.1 (Nat.le_refl _)).le (by decide)) ?_
  rw [← mod_add hx.2 hy.2]
  obtain ⟨x0, x1, x2, x3, x4, rfl⟩ := list5 hx.len
  obtain ⟨y0, y1, y2, y3, y4, rfl⟩ := list5 hy.len
  have e : mapn (fun x i => x + getI [y0, y1, y2, y3, y4] i) [x0, x1, x2, x3, x4] 5 = [x0 + y0, x1 + y1, x2 + y2, x3 + y3, x4 + y4] := rfl
  rw [e, ev_ex, ev_ex, ev_ex]
  congr 1; omega
theorem sub_el {xs ys : List Int} {a b : Int} (hx : El xs a) (hy : El ys b) : El (subF xs ys) ((a - b) % Pp) := by
  refine carry_el ((fsub_get hx.1 hy.1 (Nat.le_refl _)).1.le (by decide)) ?_
  rw [← mod_sub hx.2 hy.2]
  obtain ⟨t, ht⟩ := carry_ev hy.len
  have hl := carry_len hy.len
  obtain ⟨x0, x1, x2, x3, x4, rfl⟩ := list5 hx.len
  obtain ⟨y0, y1, y2, y3, y4, hcy⟩ := list5 hl
  rw [hcy] at ht
  rw [hcy]
  have e : mapn (sbg [y0, y1, y2, y3, y4]) (([x0, x1, x2, x3, x4] : List Int).set 0 (getI [x0, x1, x2, x3, x4] 0 + 4503599627370458)) 5 = [x0 + 4503599627370458 - y0, x1 + 4503599627370494 - y1, x2 + 4503599627370494 - y2, x3 + 4503599627370494 - y3, x4 + 4503599627370494 - y4] := rfl
  rw [e]
  refine mod_eq (b := ev5 [x0, x1, x2, x3, x4] - ev5 ys) (t + 2) ?_ rfl
  rw [ev_ex] at ht
  rw [ev_ex, ev_ex]
  unfold Pp at *
  omega
theorem row0 (a0 a1 a2 a3 a4 b0 b1 b2 b3 b4 c0 c1 c2 c3 c4 : Int) : colrow [a0, a1, a2, a3, a4] [b0, b1, b2, b3, b4] [c0, c1, c2, c3, c4] 0 = [c0 + a0 * b0, c1 + a0 * b1, c2 + a0 * b2, c3 + a0 * b3, c4 + a0 * b4] := rfl
theorem row1 (a0 a1 a2 a3 a4 b0 b1 b2 b3 b4 c0 c1 c2 c3 c4 : Int) : colrow [a0, a1, a2, a3, a4] [b0, b1, b2, b3, b4] [c0, c1, c2, c3, c4] 1 = [c0 + a1 * (b4 * 19), c1 + a1 * b0, c2 + a1 * b1, c3 + a1 * b2, c4 + a1 * b3] := rfl
theorem row2 (a0 a1 a2 a3 a4 b0 b1 b2 b3 b4 c0 c1 c2 c3 c4 : Int) : colrow [a0, a1, a2, a3, a4] [b0, b1, b2, b3, b4] [c0, c1, c2, c3, c4] 2 = [c0 + a2 * (b3 * 19), c1 + a2 * (b4 * 19), c2 + a2 * b0, c3 + a2 * b1, c4 + a2 * b2] := rfl
theorem row3 (a0 a1 a2 a3 a4 b0 b1 b2 b3 b4 c0 c1 c2 c3 c4 : Int) : colrow [a0, a1, a2, a3, a4] [b0, b1, b2, b3, b4] [c0, c1, c2, c3, c4] 3 = [c0 + a3 * (b2 * 19), c1 + a3 * (b3 * 19), c2 + a3 * (b4 * 19), c3 + a3 * b0, c4 + a3 * b1] := rfl
theorem row4 (a0 a1 a2 a3 a4 b0 b1 b2 b3 b4 c0 c1 c2 c3 c4 : Int) : colrow [a0, a1, a2, a3, a4] [b0, b1, b2, b3, b4] [c0, c1, c2, c3, c4] 4 = [c0 + a4 * (b1 * 19), c1 + a4 * (b2 * 19), c2 + a4 * (b3 * 19), c3 + a4 * (b4 * 19), c4 + a4 * b0] := rfl
theorem cols_rows (xs ys : List Int) : cols xs ys = colrow xs ys (colrow xs ys (colrow xs ys (colrow xs ys (colrow xs ys [0, 0, 0, 0, 0] 0) 1) 2) 3) 4 := rfl
theorem cols_ex (a0 a1 a2 a3 a4 b0 b1 b2 b3 b4 : Int) : cols [a0, a1, a2, a3, a4] [b0, b1, b2, b3, b4] =
    [0 + a0 * b0 + a1 * (b4 * 19) + a2 * (b3 * 19) + a3 * (b2 * 19) + a4 * (b1 * 19),
     0 + a0 * b1 + a1 * b0 + a2 * (b4 * 19) + a3 * (b3 * 19) + a4 * (b2 * 19),
     0 + a0 * b2 + a1 * b1 + a2 * b0 + a3 * (b4 * 19) + a4 * (b3 * 19),
     0 + a0 * b3 + a1 * b2 + a2 * b1 + a3 * b0 + a4 * (b4 * 19),
     0 + a0 * b4 + a1 * b3 + a2 * b2 + a3 * b1 + a4 * b0] := by
  rw [cols_rows, row0, row1, row2, row3, row4]
theorem chn_ex (c0 c1 c2 c3 c4 : Int) : (chn [c0, c1, c2, c3, c4] 5).o = [(c0 + 0) % 2251799813685248, (c1 + (c0 + 0) / 2251799813685248) % 2251799813685248, (c2 + (c1 + (c0 + 0) / 2251799813685248) / 2251799813685248) % 2251799813685248,
      (c3 + (c2 + (c1 + (c0 + 0) / 2251799813685248) / 2251799813685248) / 2251799813685248) % 2251799813685248, (c4 + (c3 + (c2 + (c1 + (c0 + 0) / 2251799813685248) / 2251799813685248) / 2251799813685248) / 2251799813685248) % 2251799813685248] ∧
    (chn [c0, c1, c2, c3, c4] 5).c = (c4 + (c3 + (c2 + (c1 + (c0 + 0) / 2251799813685248) / 2251799813685248) / 2251799813685248) / 2251799813685248) / 2251799813685248 := ⟨rfl, rfl⟩
theorem chn_ev (c0 c1 c2 c3 c4 : Int) : ev5 (chn [c0, c1, c2, c3, c4] 5).o = ev5 [c0, c1, c2, c3, c4] - (chn [c0, c1, c2, c3, c4] 5).c * 57896044618658097711785492504343953926634992332820282019728792003956564819968 := by
  rw [(chn_ex c0 c1 c2 c3 c4).1, (chn_ex c0 c1 c2 c3 c4).2, ev_ex, ev_ex]
  obtain ⟨p, hp⟩ : ∃ p, (c0 + 0) / 2251799813685248 = p := ⟨_, rfl⟩
  obtain ⟨q, hq⟩ : ∃ q, (c1 + p) / 2251799813685248 = q := ⟨_, rfl⟩
  obtain ⟨r, hr⟩ : ∃ r, (c2 + q) / 2251799813685248 = r := ⟨_, rfl⟩
  obtain ⟨s, hs⟩ : ∃ s, (c3 + r) / 2251799813685248 = s := ⟨_, rfl⟩
  rw [hp, hq, hr, hs]
  omega
theorem fin_el {s : Chn} (ho : Fv 2251799813685248 s.o) (hc : 0 ≤ s.c ∧ s.c ≤ 9223372036854775808) {n : Int} (hn : (ev5 s.o + 19 * s.c) % Pp = n) : El (fin s) n := by
  obtain ⟨cs, o, c⟩ := s
  simp only at ho hc hn
  simp only [fin]
  obtain ⟨o0, o1, o2, o3, o4, rfl⟩ := list5 ho.1
  have h0 : 0 ≤ o0 ∧ o0 < 2251799813685248 := ho.all (by decide) 0
  have h1 : 0 ≤ o1 ∧ o1 < 2251799813685248 := ho.all (by decide) 1
  have h2 : 0 ≤ o2 ∧ o2 < 2251799813685248 := ho.all (by decide) 2
  have h3 : 0 ≤ o3 ∧ o3 < 2251799813685248 := ho.all (by decide) 3
  have h4 : 0 ≤ o4 ∧ o4 < 2251799813685248 := ho.all (by decide) 4
  have e : (([o0, o1, o2, o3, o4] : List Int).set 0 ((c * 19 + getI [o0, o1, o2, o3, o4] 0) % 2251799813685248)).set 1 (getI [o0, o1, o2, o3, o4] 1 + (c * 19 + getI [o0, o1, o2, o3, o4] 0) / 2251799813685248) = [(c * 19 + o0) % 2251799813685248, o1 + (c * 19 + o0) / 2251799813685248, o2, o3, o4] := rfl
  rw [e]
  refine carry_el ⟨rfl, fun x hx => ?_⟩ ?_
  · simp only [List.mem_cons, List.not_mem_nil, or_false] at hx
    rcases hx with rfl | rfl | rfl | rfl | rfl <;> omega
  · rw [← hn, ev_ex, ev_ex]
    congr 1
    omega
theorem mul_el {xs ys : List Int} {a b : Int} (hx : El xs a) (hy : El ys b) : El (mulF xs ys) ((a * b) % Pp) := by
  have hC : Cl (25 * Mx) (cols xs ys) := colrow_inv hx.1 hy.1 5
  obtain ⟨h1, h2, h3, h4⟩ := chn_inv hC 5
  refine fin_el h2 h3 ?_
  rw [← mod_mul hx.2 hy.2]
  obtain ⟨x0, x1, x2, x3, x4, rfl⟩ := list5 hx.len
  obtain ⟨y0, y1, y2, y3, y4, rfl⟩ := list5 hy.len
  rw [cols_ex, chn_ev]
  obtain ⟨c, hc⟩ : ∃ c, (chn (cols [x0, x1, x2, x3, x4] [y0, y1, y2, y3, y4]) 5).c = c := ⟨_, rfl⟩
  rw [cols_ex] at hc
  rw [hc]
  refine mod_eq (b := ev5 [x0, x1, x2, x3, x4] * ev5 [y0, y1, y2, y3, y4]) (-c - ((x1 * y4 + x2 * y3 + x3 * y2 + x4 * y1) + 2251799813685248 * (x2 * y4 + x3 * y3 + x4 * y2) + 5070602400912917605986812821504 * (x3 * y4 + x4 * y3) + 11417981541647679048466287755595961091061972992 * (x4 * y4))) ?_ rfl
  rw [ev_ex, ev_ex, ev_ex]
  unfold Pp
  grind
theorem neg_el {xs : List Int} {a : Int} (hx : El xs a) : El (subF [0, 0, 0, 0, 0] xs) ((-a) % Pp) := by
  have h := sub_el (⟨Fv_z, rfl⟩ : El [0, 0, 0, 0, 0] (ev5 [0, 0, 0, 0, 0] % Pp)) hx
  have e : ev5 [0, 0, 0, 0, 0] % Pp = 0 := by decide
  rw [e, Int.zero_sub] at h
  exact h
theorem of_el {b : List Int} (hb : Key b) : El (dig 2251799813685248 5 (val 256 b)) (val 256 b % 57896044618658097711785492504343953926634992332820282019728792003956564819968 % Pp) := by
  refine ⟨⟨qaj _ _ _, fun x hx => ?_⟩, ?_⟩
  · have := dig_dig (B := 2251799813685248) (by decide) 5 (val 256 b) x hx; omega
  · rw [ev5, val_dig_mod (by decide)]; rfl
theorem small_el {n : Int} (h0 : 0 ≤ n) (h1 : n < 4294967296) : El [n, 0, 0, 0, 0] n := by
  refine ⟨⟨rfl, fun x hx => ?_⟩, ?_⟩
  · simp only [List.mem_cons, List.not_mem_nil, or_false] at hx
    rcases hx with rfl | rfl | rfl | rfl | rfl <;> omega
  · rw [ev_ex]; unfold Pp; omega
end Am
set_option linter.unusedSimpArgs false
set_option linter.unusedVariables false
set_option maxRecDepth 20000
namespace Am
open Go.Proofs
/-! ### Powers, inverses; what is asked -/
def pwst (xs : List Int) (V : Int) (n : Nat) (acc : List Int) : List Int := if V / 2 ^ n % 2 = 1 then mulF (mulF acc acc) xs else mulF acc acc
def pwr (xs : List Int) (V : Int) : Nat → List Int → List Int
  | 0, acc => acc
  | n + 1, acc => pwr xs V n (pwst xs V n acc)
def powF (xs : List Int) (V : Int) : List Int := pwr xs V 256 [1, 0, 0, 0, 0]
theorem mul_fv {xs ys : List Int} (hx : Fv 4503599627370496 xs) (hy : Fv 4503599627370496 ys) : Fv 4503599627370496 (mulF xs ys) := (mul_el (El.of hx) (El.of hy)).1
theorem pwst_fv {xs acc : List Int} {V : Int} {n : Nat} (hx : Fv 4503599627370496 xs) (ha : Fv 4503599627370496 acc) : Fv 4503599627370496 (pwst xs V n acc) := by
  unfold pwst; split
  · exact mul_fv (mul_fv ha ha) hx
  · exact mul_fv ha ha
theorem pwr_fv {xs : List Int} {V : Int} (hx : Fv 4503599627370496 xs) : ∀ (n : Nat) {acc : List Int}, Fv 4503599627370496 acc → Fv 4503599627370496 (pwr xs V n acc)
  | 0, _, ha => ha
  | n + 1, _, ha => pwr_fv hx n (pwst_fv hx ha)
theorem fv_one : Fv 4503599627370496 [1, 0, 0, 0, 0] := (small_el (n := 1) (by decide) (by decide)).1
def preEK (ds : List D) : Prop := ∃ xs e : List Int, ds = [.v (.ints .u64 xs), .v (.ints .u8 e)] ∧ Fv 4503599627370496 xs ∧ Key e
def F26 : List D → Out
  | [.v (.ints _ xs), .v (.ints _ e)] => .one (.v (.ints .u64 (powF xs (val 256 e))))
  | _ => bad
def s26 : Summ := sData [.v, .v] preEK F26
theorem bit_of8 {b : List Int} (hw : Dig 256 b) (i : Nat) : getI b (i / 8) / 2 ^ (i % 8) % 2 = val 256 b / 2 ^ i % 2 := by
  rw [digit_at (by decide) hw]
  have e : (2 : Int) ^ i = 256 ^ (i / 8) * 2 ^ (i % 8) := by
    conv => lhs; rw [← Nat.div_add_mod i 8, Int.pow_add, Int.pow_mul]
    rfl
  rw [e, ← Int.ediv_ediv_of_nonneg (Int.le_of_lt (Int.pow_pos (by decide)))]
  exact mod_mod_div _ (w := 8) (Nat.mod_lt _ (by decide))
theorem bAnd_one8 {a : Int} (h0 : 0 ≤ a) (h1 : a < 256) : bAnd .u8 a 1 = a % 2 := by
  have := bAnd_mask .u8 1 a h0 (by simpa [Go.IntKind.bits] using h1) (by decide) rfl
  simpa using this
theorem shr_u8 {a : Int} (n : Nat) (hn : n ≤ 8) : iShr .u8 a (n : Int) = a / 2 ^ n := by
  rw [iShr_eq, Int.toNat_natCast, show min n Go.IntKind.u8.bits = n from Nat.min_eq_left hn]
theorem key_bit {e : List Int} (h : Key e) (i : Nat) : bAnd .u8 (iShr .u8 (getI e (i / 8)) ((i % 8 : Nat) : Int)) 1 = val 256 e / 2 ^ i % 2 := by
  have hg := h.2.all (by decide) (i / 8)
  have hp : (0 : Int) < 2 ^ (i % 8) := Int.pow_pos (by decide)
  rw [shr_u8 _ (by omega), bAnd_one8 (Int.ediv_nonneg hg.1 (by omega)) (Int.lt_of_le_of_lt (Int.ediv_le_self _ hg.1) (by omega)), bit_of8 h.2]
theorem ok26 {g : List Blk} [Ge gl g] : SumOK Try.prog g 26 s26 ∧ SumAbs s26 := by
  refine fsumA (l := [(36, s36), (39, s39)]) mixed gl_plain rfl Try.func26 comp26 compR26 nt26 (by simp only [List.mem_cons, List.not_mem_nil, or_false, forall_eq_or_imp, forall_eq]; exact ⟨ok36, ok39⟩) fun ds ⟨xs, e, hd, hx, he⟩ hA => ?_
  subst hd
  have hxl := hx.1
  have hel := he.1
  have q1 : preU32 [.v (.int .u32 1)] := ⟨1, rfl, by decide, by decide⟩
  have sx : sub xs 0 5 = xs := qda hxl
  obtain ⟨V, hV⟩ : ∃ V, val 256 e = V := ⟨_, rfl⟩
  have hkb := key_bit he
  rw [hV] at hkb
  simp only [s36, s39]
  simp only [ir26,rs26,gl,F26,hxl,hel,hV,q1,s36,F36,qda,qc6,qaj,List.length_cons,List.length_nil,Nat.reduceAdd,Nat.le_refl,Nat.reduceLeDiff,Nat.reduceLT,true_and,and_true,↓qax,↓qay,↓qa0,↓qaz,↓qcs,↓qbj,↓qa1,↓qcl,↓qb3,↓qci,↓qcb,↓qce,↓qcf,↓qb4,↓qcd,↓qcj,↓qb5,↓qcg,↓qch,↓qb6,↓qcc,↓qca,↓qb9,↓qb8,↓qb7,↓qa5,↓qbc,↓qa6,↓qbd,↓qa7,↓qbe,↓qa8,↓qbf,↓qa9,↓qbg,↓qba,↓qbh,↓qbb,↓qbi,↓qb2,↓qck,↓qfc,↓qco,↓qcp,↓qcq,↓qcn,↓qcm,↓qbm,↓qbn,↓qb0,↓qbv,↓qbq,↓qbu,↓qbz,↓qbw,↓qby,↓qbx,↓qbr,↓qbp,↓qb1,↓qbs,↓qbt,↓qbo,↓qez,↓qey,↓qe3,↓qe5,↓qe4,↓qex,↓qew,↓qet,↓qeu,↓qe2,↓qe1,↓qe0,qc5,↓qeq,↓qer,↓qev,↓qc4,↓qc2,↓qc3,↓qe7,↓qe8,↓qe9,↓qe6,qaa,↓qes,↓qef,↓qeg,↓qfb,↓qfa,↓qei,↓qdk,↓qds,↓qd9,↓qea,↓qen,↓qeo,↓qdo,↓qdp,↓qdr,↓qdq,↓qdx,↓qep,↓qdv,↓qej,↓qdn,↓qed,↓qek,↓qel,↓qem,↓qd1,↓qd0,↓qd2,↓qd3,↓qd5,↓qdz,↓qd6,↓qd8,↓qd7,↓qdl,↓qdm,↓qdy,↓qaw,↓qdw,↓qee,↓qec,↓qdj,↓qeh,↓qeb,↓qd4,qav,List.drop_zero,Nat.sub_zero,qcy,qct,qcu,qdh,qat,qas,qaf,List.map_cons,List.map_nil,List.zip_cons_cons,List.zip_nil_right,List.zip_nil_left,qau,evs,evp,mkB,repB,blen,qae,qad,qac,qab,qc1,qc0,qdg,qdi,qde,qdf,qcx,qcz,qcv,qcw,↓qdc,↓qdb,↓qdd,↓qah,↓qag,↓qai,↓retQ,res,resAll,resOne,kill,apartOk,exp,injV,injB,pur,purs,purR,pursR,List.set_cons_zero,List.set_cons_succ,List.length_cons,List.length_nil,List.cons_append,List.nil_append,List.append_nil,List.append_assoc,List.length_append,List.reduceReplicate,Nat.reduceAdd,Nat.reduceMul,Nat.reduceSub,Nat.reduceEqDiff,Nat.reduceLT,Nat.zero_add,Nat.add_zero,Nat.mul_one,Int.reduceToNat,Int.toNat_natCast,Int.cast_ofNat_Int,Int.reduceLE,Int.reduceLT,Int.reduceEq,reduceCtorEq,↓reduceIte,Bool.true_eq_false,Bool.false_eq_true,Bool.not_true,Bool.not_false,true_and,and_true,and_assoc,qaj,sub1,qc8,qc7,qc9,List.length_replicate,Nat.le_refl,false_implies,true_implies,ne_eq,not_true_eq_false,not_false_eq_true,decide_true,decide_false,decide_eq_true_eq,decide_eq_false_iff_not,Bool.not_eq_true',Bool.not_eq_false']
  obtain ⟨R, hR⟩ : ∃ R, powF xs V = R := ⟨_, rfl⟩
  rw [hR]
  refine awp_loopA (n := 28) hA [2, 3, 4, 5, 6] (by decide +kernel) (fun s : Nat × List Int => [.ptr 4 0, .ptr 5 0, .ptr 6 0, .ptr 7 0, .int .i64 ((s.1 : Int) - 1)])
    (fun s => [.dead, .dead, .dead, .dead, .ints false .u64 xs, .ints false .u8 e, .ints false .u64 [0, 0, 0, 0, 0], .ints false .u64 s.2]) (fun s => s.1 ≤ 256 ∧ Fv 4503599627370496 s.2 ∧ pwr xs V s.1 s.2 = R) (fun s => s.1) (256, [1, 0, 0, 0, 0]) ?_ ⟨by decide, fv_one, hR⟩ ?_
  · refine Hd.same ?_
    simp only [show (256 : Int) - 1 = 255 by decide,↓qax,↓qay,↓qa0,↓qaz,↓qcs,↓qbj,↓qa1,↓qcl,↓qb3,↓qci,↓qcb,↓qce,↓qcf,↓qb4,↓qcd,↓qcj,↓qb5,↓qcg,↓qch,↓qb6,↓qcc,↓qca,↓qb9,↓qb8,↓qb7,↓qa5,↓qbc,↓qa6,↓qbd,↓qa7,↓qbe,↓qa8,↓qbf,↓qa9,↓qbg,↓qba,↓qbh,↓qbb,↓qbi,↓qb2,↓qck,↓qfc,↓qco,↓qcp,↓qcq,↓qcn,↓qcm,↓qbm,↓qbn,↓qb0,↓qbv,↓qbq,↓qbu,↓qbz,↓qbw,↓qby,↓qbx,↓qbr,↓qbp,↓qb1,↓qbs,↓qbt,↓qbo,↓qez,↓qey,↓qe3,↓qe5,↓qe4,↓qex,↓qew,↓qet,↓qeu,↓qe2,↓qe1,↓qe0,qc5,↓qeq,↓qer,↓qev,↓qc4,↓qc2,↓qc3,↓qe7,↓qe8,↓qe9,↓qe6,qaa,↓qes,↓qef,↓qeg,↓qfb,↓qfa,↓qei,↓qdk,↓qds,↓qd9,↓qea,↓qen,↓qeo,↓qdo,↓qdp,↓qdr,↓qdq,↓qdx,↓qep,↓qdv,↓qej,↓qdn,↓qed,↓qek,↓qel,↓qem,↓qd1,↓qd0,↓qd2,↓qd3,↓qd5,↓qdz,↓qd6,↓qd8,↓qd7,↓qdl,↓qdm,↓qdy,↓qaw,↓qdw,↓qee,↓qec,↓qdj,↓qeh,↓qeb,↓qd4,qav,List.drop_zero,Nat.sub_zero,qcy,qct,qcu,qdh,qat,qas,qaf,List.map_cons,List.map_nil,List.zip_cons_cons,List.zip_nil_right,List.zip_nil_left,qau,evs,evp,mkB,repB,blen,qae,qad,qac,qab,qc1,qc0,qdg,qdi,qde,qdf,qcx,qcz,qcv,qcw,↓qdc,↓qdb,↓qdd,↓qah,↓qag,↓qai,↓retQ,res,resAll,resOne,kill,apartOk,exp,injV,injB,pur,purs,purR,pursR,List.set_cons_zero,List.set_cons_succ,List.length_cons,List.length_nil,List.cons_append,List.nil_append,List.append_nil,List.append_assoc,List.length_append,List.reduceReplicate,Nat.reduceAdd,Nat.reduceMul,Nat.reduceSub,Nat.reduceEqDiff,Nat.reduceLT,Nat.zero_add,Nat.add_zero,Nat.mul_one,Int.reduceToNat,Int.toNat_natCast,Int.cast_ofNat_Int,Int.reduceLE,Int.reduceLT,Int.reduceEq,reduceCtorEq,↓reduceIte,Bool.true_eq_false,Bool.false_eq_true,Bool.not_true,Bool.not_false,true_and,and_true,and_assoc,qaj,sub1,qc8,qc7,qc9,List.length_replicate,Nat.le_refl,false_implies,true_implies,ne_eq,not_true_eq_false,not_false_eq_true,decide_true,decide_false,decide_eq_true_eq,decide_eq_false_iff_not,Bool.not_eq_true',Bool.not_eq_false']
  rintro ⟨n, acc⟩ ⟨hn, hacc, hr⟩ K hK
  simp only at hn hacc hr hK
  have hal := hacc.1
  have sa : sub acc 0 5 = acc := qda hal
  by_cases h0 : n = 0
  · subst h0
    have c1 : ¬ (0 : Int) ≤ 0 - 1 := by decide
    have hr' : acc = R := hr
    rw [hr'] at hal sa
    have sp : spl [0, 0, 0, 0, 0] 0 R = R := qc6 (by simp [hal])
    simp only [c1,hr',hal,sa,sp,qda,qc6,qaj,List.length_cons,List.length_nil,Nat.reduceAdd,Nat.le_refl,Nat.reduceLeDiff,Nat.reduceLT,true_and,and_true,↓qax,↓qay,↓qa0,↓qaz,↓qcs,↓qbj,↓qa1,↓qcl,↓qb3,↓qci,↓qcb,↓qce,↓qcf,↓qb4,↓qcd,↓qcj,↓qb5,↓qcg,↓qch,↓qb6,↓qcc,↓qca,↓qb9,↓qb8,↓qb7,↓qa5,↓qbc,↓qa6,↓qbd,↓qa7,↓qbe,↓qa8,↓qbf,↓qa9,↓qbg,↓qba,↓qbh,↓qbb,↓qbi,↓qb2,↓qck,↓qfc,↓qco,↓qcp,↓qcq,↓qcn,↓qcm,↓qbm,↓qbn,↓qb0,↓qbv,↓qbq,↓qbu,↓qbz,↓qbw,↓qby,↓qbx,↓qbr,↓qbp,↓qb1,↓qbs,↓qbt,↓qbo,↓qez,↓qey,↓qe3,↓qe5,↓qe4,↓qex,↓qew,↓qet,↓qeu,↓qe2,↓qe1,↓qe0,qc5,↓qeq,↓qer,↓qev,↓qc4,↓qc2,↓qc3,↓qe7,↓qe8,↓qe9,↓qe6,qaa,↓qes,↓qef,↓qeg,↓qfb,↓qfa,↓qei,↓qdk,↓qds,↓qd9,↓qea,↓qen,↓qeo,↓qdo,↓qdp,↓qdr,↓qdq,↓qdx,↓qep,↓qdv,↓qej,↓qdn,↓qed,↓qek,↓qel,↓qem,↓qd1,↓qd0,↓qd2,↓qd3,↓qd5,↓qdz,↓qd6,↓qd8,↓qd7,↓qdl,↓qdm,↓qdy,↓qaw,↓qdw,↓qee,↓qec,↓qdj,↓qeh,↓qeb,↓qd4,qav,List.drop_zero,Nat.sub_zero,qcy,qct,qcu,qdh,qat,qas,qaf,List.map_cons,List.map_nil,List.zip_cons_cons,List.zip_nil_right,List.zip_nil_left,qau,evs,evp,mkB,repB,blen,qae,qad,qac,qab,qc1,qc0,qdg,qdi,qde,qdf,qcx,qcz,qcv,qcw,↓qdc,↓qdb,↓qdd,↓qah,↓qag,↓qai,↓retQ,res,resAll,resOne,kill,apartOk,exp,injV,injB,pur,purs,purR,pursR,List.set_cons_zero,List.set_cons_succ,List.length_cons,List.length_nil,List.cons_append,List.nil_append,List.append_nil,List.append_assoc,List.length_append,List.reduceReplicate,Nat.reduceAdd,Nat.reduceMul,Nat.reduceSub,Nat.reduceEqDiff,Nat.reduceLT,Nat.zero_add,Nat.add_zero,Nat.mul_one,Int.reduceToNat,Int.toNat_natCast,Int.cast_ofNat_Int,Int.reduceLE,Int.reduceLT,Int.reduceEq,reduceCtorEq,↓reduceIte,Bool.true_eq_false,Bool.false_eq_true,Bool.not_true,Bool.not_false,true_and,and_true,and_assoc,qaj,sub1,qc8,qc7,qc9,List.length_replicate,Nat.le_refl,false_implies,true_implies,ne_eq,not_true_eq_false,not_false_eq_true,decide_true,decide_false,decide_eq_true_eq,decide_eq_false_iff_not,Bool.not_eq_true',Bool.not_eq_false']
    repeat (refine And.intro (by omega) ?_)
    simp only [out, outs, out1, pur, and_self]
  · obtain ⟨i, rfl⟩ : ∃ i, n = i + 1 := ⟨n - 1, by omega⟩
    have c0 : ((i + 1 : Nat) : Int) - 1 = (i : Int) := by omega
    have c1 : (0 : Int) ≤ (i : Int) := by omega
    have wd : Go.IntKind.i64.wrap ((i : Int) - 1) = (i : Int) - 1 := by rw [wrap_i64]; omega
    have d8 := w64_div8 (i := i) (by omega)
    have p1 : preEE [.v (.ints .u64 acc), .v (.ints .u64 acc)] := ⟨_, _, rfl, hacc, hacc⟩
    have hm := mul_fv hacc hacc
    have hs : pwr xs V (i + 1) acc = pwr xs V i (pwst xs V i acc) := rfl
    have hpf := pwst_fv (V := V) (n := i) hx hacc
    rw [hs] at hr
    obtain ⟨m, hmm⟩ : ∃ m, mulF acc acc = m := ⟨_, rfl⟩
    rw [pwst, hmm] at hr hpf
    rw [hmm] at hm
    have hml := hm.1
    have sm : sub m 0 5 = m := qda hml
    have spm : spl acc 0 m = m := qc6 (by omega)
    have p2 : preEE [.v (.ints .u64 m), .v (.ints .u64 xs)] := ⟨_, _, rfl, hm, hx⟩
    have hi32 : i / 8 < 32 := by omega
    have hkb' := hkb i
    simp only [s36, s39]
    by_cases hb : V / 2 ^ i % 2 = 1
    · rw [if_pos hb] at hr hpf
      rw [hb] at hkb'
      have hl2 := hpf.1
      have sp2 : spl m 0 (mulF m xs) = mulF m xs := qc6 (by omega)
      simp only [c0,c1,wd,d8,tmod8,hel,hal,sa,sx,p1,p2,hmm,hml,sm,spm,hkb',hxl,hl2,sp2,hi32,s39,F39,qda,qc6,qaj,List.length_cons,List.length_nil,Nat.reduceAdd,Nat.le_refl,Nat.reduceLeDiff,Nat.reduceLT,true_and,and_true,↓qax,↓qay,↓qa0,↓qaz,↓qcs,↓qbj,↓qa1,↓qcl,↓qb3,↓qci,↓qcb,↓qce,↓qcf,↓qb4,↓qcd,↓qcj,↓qb5,↓qcg,↓qch,↓qb6,↓qcc,↓qca,↓qb9,↓qb8,↓qb7,↓qa5,↓qbc,↓qa6,↓qbd,↓qa7,↓qbe,↓qa8,↓qbf,↓qa9,↓qbg,↓qba,↓qbh,↓qbb,↓qbi,↓qb2,↓qck,↓qfc,↓qco,↓qcp,↓qcq,↓qcn,↓qcm,↓qbm,↓qbn,↓qb0,↓qbv,↓qbq,↓qbu,↓qbz,↓qbw,↓qby,↓qbx,↓qbr,↓qbp,↓qb1,↓qbs,↓qbt,↓qbo,↓qez,↓qey,↓qe3,↓qe5,↓qe4,↓qex,↓qew,↓qet,↓qeu,↓qe2,↓qe1,↓qe0,qc5,↓qeq,↓qer,↓qev,↓qc4,↓qc2,↓qc3,↓qe7,↓qe8,↓qe9,↓qe6,qaa,↓qes,↓qef,↓qeg,↓qfb,↓qfa,↓qei,↓qdk,↓qds,↓qd9,↓qea,↓qen,↓qeo,↓qdo,↓qdp,↓qdr,↓qdq,↓qdx,↓qep,↓qdv,↓qej,↓qdn,↓qed,↓qek,↓qel,↓qem,↓qd1,↓qd0,↓qd2,↓qd3,↓qd5,↓qdz,↓qd6,↓qd8,↓qd7,↓qdl,↓qdm,↓qdy,↓qaw,↓qdw,↓qee,↓qec,↓qdj,↓qeh,↓qeb,↓qd4,qav,List.drop_zero,Nat.sub_zero,qcy,qct,qcu,qdh,qat,qas,qaf,List.map_cons,List.map_nil,List.zip_cons_cons,List.zip_nil_right,List.zip_nil_left,qau,evs,evp,mkB,repB,blen,qae,qad,qac,qab,qc1,qc0,qdg,qdi,qde,qdf,qcx,qcz,qcv,qcw,↓qdc,↓qdb,↓qdd,↓qah,↓qag,↓qai,↓retQ,res,resAll,resOne,kill,apartOk,exp,injV,injB,pur,purs,purR,pursR,List.set_cons_zero,List.set_cons_succ,List.length_cons,List.length_nil,List.cons_append,List.nil_append,List.append_nil,List.append_assoc,List.length_append,List.reduceReplicate,Nat.reduceAdd,Nat.reduceMul,Nat.reduceSub,Nat.reduceEqDiff,Nat.reduceLT,Nat.zero_add,Nat.add_zero,Nat.mul_one,Int.reduceToNat,Int.toNat_natCast,Int.cast_ofNat_Int,Int.reduceLE,Int.reduceLT,Int.reduceEq,reduceCtorEq,↓reduceIte,Bool.true_eq_false,Bool.false_eq_true,Bool.not_true,Bool.not_false,true_and,and_true,and_assoc,qaj,sub1,qc8,qc7,qc9,List.length_replicate,Nat.le_refl,false_implies,true_implies,ne_eq,not_true_eq_false,not_false_eq_true,decide_true,decide_false,decide_eq_true_eq,decide_eq_false_iff_not,Bool.not_eq_true',Bool.not_eq_false']
      repeat (refine And.intro (by omega) ?_)
      refine ⟨(i, mulF m xs), hK _ ⟨by simp only; omega, hpf, hr⟩ (by simp only; omega), Hd.same ?_⟩
      simp only [↓qax,↓qay,↓qa0,↓qaz,↓qcs,↓qbj,↓qa1,↓qcl,↓qb3,↓qci,↓qcb,↓qce,↓qcf,↓qb4,↓qcd,↓qcj,↓qb5,↓qcg,↓qch,↓qb6,↓qcc,↓qca,↓qb9,↓qb8,↓qb7,↓qa5,↓qbc,↓qa6,↓qbd,↓qa7,↓qbe,↓qa8,↓qbf,↓qa9,↓qbg,↓qba,↓qbh,↓qbb,↓qbi,↓qb2,↓qck,↓qfc,↓qco,↓qcp,↓qcq,↓qcn,↓qcm,↓qbm,↓qbn,↓qb0,↓qbv,↓qbq,↓qbu,↓qbz,↓qbw,↓qby,↓qbx,↓qbr,↓qbp,↓qb1,↓qbs,↓qbt,↓qbo,↓qez,↓qey,↓qe3,↓qe5,↓qe4,↓qex,↓qew,↓qet,↓qeu,↓qe2,↓qe1,↓qe0,qc5,↓qeq,↓qer,↓qev,↓qc4,↓qc2,↓qc3,↓qe7,↓qe8,↓qe9,↓qe6,qaa,↓qes,↓qef,↓qeg,↓qfb,↓qfa,↓qei,↓qdk,↓qds,↓qd9,↓qea,↓qen,↓qeo,↓qdo,↓qdp,↓qdr,↓qdq,↓qdx,↓qep,↓qdv,↓qej,↓qdn,↓qed,↓qek,↓qel,↓qem,↓qd1,↓qd0,↓qd2,↓qd3,↓qd5,↓qdz,↓qd6,↓qd8,↓qd7,↓qdl,↓qdm,↓qdy,↓qaw,↓qdw,↓qee,↓qec,↓qdj,↓qeh,↓qeb,↓qd4,qav,List.drop_zero,Nat.sub_zero,qcy,qct,qcu,qdh,qat,qas,qaf,List.map_cons,List.map_nil,List.zip_cons_cons,List.zip_nil_right,List.zip_nil_left,qau,evs,evp,mkB,repB,blen,qae,qad,qac,qab,qc1,qc0,qdg,qdi,qde,qdf,qcx,qcz,qcv,qcw,↓qdc,↓qdb,↓qdd,↓qah,↓qag,↓qai,↓retQ,res,resAll,resOne,kill,apartOk,exp,injV,injB,pur,purs,purR,pursR,List.set_cons_zero,List.set_cons_succ,List.length_cons,List.length_nil,List.cons_append,List.nil_append,List.append_nil,List.append_assoc,List.length_append,List.reduceReplicate,Nat.reduceAdd,Nat.reduceMul,Nat.reduceSub,Nat.reduceEqDiff,Nat.reduceLT,Nat.zero_add,Nat.add_zero,Nat.mul_one,Int.reduceToNat,Int.toNat_natCast,Int.cast_ofNat_Int,Int.reduceLE,Int.reduceLT,Int.reduceEq,reduceCtorEq,↓reduceIte,Bool.true_eq_false,Bool.false_eq_true,Bool.not_true,Bool.not_false,true_and,and_true,and_assoc,qaj,sub1,qc8,qc7,qc9,List.length_replicate,Nat.le_refl,false_implies,true_implies,ne_eq,not_true_eq_false,not_false_eq_true,decide_true,decide_false,decide_eq_true_eq,decide_eq_false_iff_not,Bool.not_eq_true',Bool.not_eq_false']
    · rw [if_neg hb] at hr hpf
      have hb0 : V / 2 ^ i % 2 = 0 := by omega
      rw [hb0] at hkb'
      simp only [c0,c1,wd,d8,tmod8,hel,hal,sa,sx,p1,p2,hmm,hml,sm,spm,hkb',hxl,hi32,s39,F39,qda,qc6,qaj,List.length_cons,List.length_nil,Nat.reduceAdd,Nat.le_refl,Nat.reduceLeDiff,Nat.reduceLT,true_and,and_true,↓qax,↓qay,↓qa0,↓qaz,↓qcs,↓qbj,↓qa1,↓qcl,↓qb3,↓qci,↓qcb,↓qce,↓qcf,↓qb4,↓qcd,↓qcj,↓qb5,↓qcg,↓qch,↓qb6,↓qcc,↓qca,↓qb9,↓qb8,↓qb7,↓qa5,↓qbc,↓qa6,↓qbd,↓qa7,↓qbe,↓qa8,↓qbf,↓qa9,↓qbg,↓qba,↓qbh,↓qbb,↓qbi,↓qb2,↓qck,↓qfc,↓qco,↓qcp,↓qcq,↓qcn,↓qcm,↓qbm,↓qbn,↓qb0,↓qbv,↓qbq,↓qbu,↓qbz,↓qbw,↓qby,↓qbx,↓qbr,↓qbp,↓qb1,↓qbs,↓qbt,↓qbo,↓qez,↓qey,↓qe3,↓qe5,↓qe4,↓qex,↓qew,↓qet,↓qeu,↓qe2,↓qe1,↓qe0,qc5,↓qeq,↓qer,↓qev,↓qc4,↓qc2,↓qc3,↓qe7,↓qe8,↓qe9,↓qe6,qaa,↓qes,↓qef,↓qeg,↓qfb,↓qfa,↓qei,↓qdk,↓qds,↓qd9,↓qea,↓qen,↓qeo,↓qdo,↓qdp,↓qdr,↓qdq,↓qdx,↓qep,↓qdv,↓qej,↓qdn,↓qed,↓qek,↓qel,↓qem,↓qd1,↓qd0,↓qd2,↓qd3,↓qd5,↓qdz,↓qd6,↓qd8,↓qd7,↓qdl,↓qdm,↓qdy,↓qaw,↓qdw,↓qee,↓qec,↓qdj,↓qeh,↓qeb,↓qd4,qav,List.drop_zero,Nat.sub_zero,qcy,qct,qcu,qdh,qat,qas,qaf,List.map_cons,List.map_nil,List.zip_cons_cons,List.zip_nil_right,List.zip_nil_left,qau,evs,evp,mkB,repB,blen,qae,qad,qac,qab,qc1,qc0,qdg,qdi,qde,qdf,qcx,qcz,qcv,qcw,↓qdc,↓qdb,↓qdd,↓qah,↓qag,↓qai,↓retQ,res,resAll,resOne,kill,apartOk,exp,injV,injB,pur,purs,purR,pursR,List.set_cons_zero,List.set_cons_succ,List.length_cons,List.length_nil,List.cons_append,List.nil_append,List.append_nil,List.append_assoc,List.length_append,List.reduceReplicate,Nat.reduceAdd,Nat.reduceMul,Nat.reduceSub,Nat.reduceEqDiff,Nat.reduceLT,Nat.zero_add,Nat.add_zero,Nat.mul_one,Int.reduceToNat,Int.toNat_natCast,Int.cast_ofNat_Int,Int.reduceLE,Int.reduceLT,Int.reduceEq,reduceCtorEq,↓reduceIte,Bool.true_eq_false,Bool.false_eq_true,Bool.not_true,Bool.not_false,true_and,and_true,and_assoc,qaj,sub1,qc8,qc7,qc9,List.length_replicate,Nat.le_refl,false_implies,true_implies,ne_eq,not_true_eq_false,not_false_eq_true,decide_true,decide_false,decide_eq_true_eq,decide_eq_false_iff_not,Bool.not_eq_true',Bool.not_eq_false']
      repeat (refine And.intro (by omega) ?_)
      refine ⟨(i, m), hK _ ⟨by simp only; omega, hpf, hr⟩ (by simp only; omega), Hd.same ?_⟩
      simp only [↓qax,↓qay,↓qa0,↓qaz,↓qcs,↓qbj,↓qa1,↓qcl,↓qb3,↓qci,↓qcb,↓qce,↓qcf,↓qb4,↓qcd,↓qcj,↓qb5,↓qcg,↓qch,↓qb6,↓qcc,↓qca,↓qb9,↓qb8,↓qb7,↓qa5,↓qbc,↓qa6,↓qbd,↓qa7,↓qbe,↓qa8,↓qbf,↓qa9,↓qbg,↓qba,↓qbh,↓qbb,↓qbi,↓qb2,↓qck,↓qfc,↓qco,↓qcp,↓qcq,↓qcn,↓qcm,↓qbm,↓qbn,↓qb0,↓qbv,↓qbq,↓qbu,↓qbz,↓qbw,↓qby,↓qbx,↓qbr,↓qbp,↓qb1,↓qbs,↓qbt,↓qbo,↓qez,↓qey,↓qe3,↓qe5,↓qe4,↓qex,↓qew,↓qet,↓qeu,↓qe2,↓qe1,↓qe0,qc5,↓qeq,↓qer,↓qev,↓qc4,↓qc2,↓qc3,↓qe7,↓qe8,↓qe9,↓qe6,qaa,↓qes,↓qef,↓qeg,↓qfb,↓qfa,↓qei,↓qdk,↓qds,↓qd9,↓qea,↓qen,↓qeo,↓qdo,↓qdp,↓qdr,↓qdq,↓qdx,↓qep,↓qdv,↓qej,↓qdn,↓qed,↓qek,↓qel,↓qem,↓qd1,↓qd0,↓qd2,↓qd3,↓qd5,↓qdz,↓qd6,↓qd8,↓qd7,↓qdl,↓qdm,↓qdy,↓qaw,↓qdw,↓qee,↓qec,↓qdj,↓qeh,↓qeb,↓qd4,qav,List.drop_zero,Nat.sub_zero,qcy,qct,qcu,qdh,qat,qas,qaf,List.map_cons,List.map_nil,List.zip_cons_cons,List.zip_nil_right,List.zip_nil_left,qau,evs,evp,mkB,repB,blen,qae,qad,qac,qab,qc1,qc0,qdg,qdi,qde,qdf,qcx,qcz,qcv,qcw,↓qdc,↓qdb,↓qdd,↓qah,↓qag,↓qai,↓retQ,res,resAll,resOne,kill,apartOk,exp,injV,injB,pur,purs,purR,pursR,List.set_cons_zero,List.set_cons_succ,List.length_cons,List.length_nil,List.cons_append,List.nil_append,List.append_nil,List.append_assoc,List.length_append,List.reduceReplicate,Nat.reduceAdd,Nat.reduceMul,Nat.reduceSub,Nat.reduceEqDiff,Nat.reduceLT,Nat.zero_add,Nat.add_zero,Nat.mul_one,Int.reduceToNat,Int.toNat_natCast,Int.cast_ofNat_Int,Int.reduceLE,Int.reduceLT,Int.reduceEq,reduceCtorEq,↓reduceIte,Bool.true_eq_false,Bool.false_eq_true,Bool.not_true,Bool.not_false,true_and,and_true,and_assoc,qaj,sub1,qc8,qc7,qc9,List.length_replicate,Nat.le_refl,false_implies,true_implies,ne_eq,not_true_eq_false,not_false_eq_true,decide_true,decide_false,decide_eq_true_eq,decide_eq_false_iff_not,Bool.not_eq_true',Bool.not_eq_false']
end Am
