/-
Working texts: contracts of functions, and the numbers behind them.
-/
import Derived.Test.YtbmdhkfdigeebaaAeC
set_option linter.unusedSimpArgs false
set_option linter.unusedVariables false
set_option linter.unusedSectionVars false
set_option linter.unusedSimpArgs false
set_option linter.unusedVariables false
set_option maxRecDepth 20000
namespace Am
open Go.Proofs
/-! ### Bytes, joined -/
theorem xn {a b : Nat} (ha : a < 256) (hb : b < 256) : bXor .u8 (a : Int) (b : Int) = ((a ^^^ b : Nat) : Int) := by
  have hx : a ^^^ b < 256 := Nat.xor_lt_two_pow (n := 8) ha hb
  unfold bXor
  show Go.IntKind.u8.wrap (((BitVec.ofInt 8 (a : Int) ^^^ BitVec.ofInt 8 (b : Int)).toNat : Nat) : Int) = _
  rw [BitVec.ofInt_natCast, BitVec.ofInt_natCast, BitVec.toNat_xor, BitVec.toNat_ofNat, BitVec.toNat_ofNat, Nat.mod_eq_of_lt (by simpa using ha), Nat.mod_eq_of_lt (by simpa using hb), wrap_u8]
  omega
theorem xi {a b : Nat} (ha : a < 256) (hb : b < 256) : bXor .i64 (a : Int) (b : Int) = ((a ^^^ b : Nat) : Int) := by
  have hx : a ^^^ b < 256 := Nat.xor_lt_two_pow (n := 8) ha hb
  unfold bXor
  show Go.IntKind.i64.wrap (((BitVec.ofInt 64 (a : Int) ^^^ BitVec.ofInt 64 (b : Int)).toNat : Nat) : Int) = _
  rw [BitVec.ofInt_natCast, BitVec.ofInt_natCast, BitVec.toNat_xor, BitVec.toNat_ofNat, BitVec.toNat_ofNat, Nat.mod_eq_of_lt (by omega), Nat.mod_eq_of_lt (by omega), wrap_i64]
  omega
theorem x_lt {a b : Nat} (ha : a < 256) (hb : b < 256) : a ^^^ b < 256 := Nat.xor_lt_two_pow (n := 8) ha hb
def tw (n : Nat) : Nat := (n * 2 % 256) ^^^ (n / 128 * 27)
theorem twi_tw : ∀ n : Nat, n < 256 → twi (n : Int) = ((tw n : Nat) : Int) ∧ byG (n : Int) 2 8 0 = ((tw n : Nat) : Int) ∧ byG (n : Int) 3 8 0 = ((tw n ^^^ n : Nat) : Int) ∧ tw n < 256 := by decide +kernel
theorem tw_xor {a b : Nat} (ha : a < 256) (hb : b < 256) : tw (a ^^^ b) = tw a ^^^ tw b := by
  have h1 : (a ^^^ b) * 2 % 256 = (a * 2 % 256) ^^^ (b * 2 % 256) := by
    rw [show (256 : Nat) = 2 ^ 8 from rfl, ← Nat.xor_mod_two_pow, show (a ^^^ b) * 2 = (a * 2) ^^^ (b * 2) by
      have := @Nat.shiftLeft_xor_distrib 1 a b
      simpa [Nat.shiftLeft_eq] using this]
  have h2 : (a ^^^ b) / 128 = (a / 128) ^^^ (b / 128) := by
    have := @Nat.shiftRight_xor_distrib 7 a b
    simpa [Nat.shiftRight_eq_div_pow] using this
  have h3 : ∀ x y : Nat, x < 2 → y < 2 → (x ^^^ y) * 27 = (x * 27) ^^^ (y * 27) := by
    intro x y hx hy
    rcases (by omega : x = 0 ∨ x = 1) with rfl | rfl <;> rcases (by omega : y = 0 ∨ y = 1) with rfl | rfl <;> rfl
  unfold tw
  rw [h1, h2, h3 _ _ (by omega) (by omega)]
  generalize a * 2 % 256 = p
  generalize b * 2 % 256 = q
  generalize a / 128 * 27 = r
  generalize b / 128 * 27 = s
  apply Nat.eq_of_testBit_eq
  intro i
  simp only [Nat.testBit_xor]
  cases p.testBit i <;> cases q.testBit i <;> cases r.testBit i <;> cases s.testBit i <;> rfl
theorem mix_nat (a b c d s t : Nat) : a ^^^ ((((a ^^^ b) ^^^ c) ^^^ d) ^^^ (s ^^^ t)) = ((s ^^^ (t ^^^ b)) ^^^ c) ^^^ d := by
  apply Nat.eq_of_testBit_eq
  intro i
  simp only [Nat.testBit_xor]
  cases a.testBit i <;> cases b.testBit i <;> cases c.testBit i <;> cases d.testBit i <;> cases s.testBit i <;> cases t.testBit i <;> rfl
theorem rot_nat (a b c d : Nat) : ((a ^^^ b) ^^^ c) ^^^ d = ((d ^^^ a) ^^^ b) ^^^ c := by
  apply Nat.eq_of_testBit_eq
  intro i
  simp only [Nat.testBit_xor]
  cases a.testBit i <;> cases b.testBit i <;> cases c.testBit i <;> cases d.testBit i <;> rfl
def Bt (x : Int) : Prop := 0 ≤ x ∧ x < 256
theorem Bt.nat {x : Int} (h : Bt x) : ∃ n : Nat, x = n ∧ n < 256 := by
  obtain ⟨n, rfl⟩ := Int.eq_ofNat_of_zero_le h.1
  exact ⟨n, rfl, by have := h.2; omega⟩
theorem x_comm {a b : Int} (ha : Bt a) (hb : Bt b) : bXor .u8 a b = bXor .u8 b a := by
  obtain ⟨n, rfl, hn⟩ := ha.nat
  obtain ⟨m, rfl, hm⟩ := hb.nat
  rw [xn hn hm, xn hm hn, Nat.xor_comm]
/-- A column's byte: what the program makes of it is what the reference makes of it. -/
theorem mix_byte {a b c d : Int} (ha : Bt a) (hb : Bt b) (hc : Bt c) (hd : Bt d) :
    bXor .u8 a (bXor .u8 (bXor .u8 (bXor .u8 (bXor .u8 a b) c) d) (twi (bXor .u8 a b))) = Go.IntKind.u8.wrap (bXor .i64 (bXor .i64 (bXor .i64 (byG a 2 8 0) (byG b 3 8 0)) c) d) := by
  obtain ⟨a, rfl, ka⟩ := ha.nat
  obtain ⟨b, rfl, kb⟩ := hb.nat
  obtain ⟨c, rfl, kc⟩ := hc.nat
  obtain ⟨d, rfl, kd⟩ := hd.nat
  clear ha hb hc hd
  have ha := ka
  have hb := kb
  have hc := kc
  have hd := kd
  have hab := x_lt ha hb
  have habc := x_lt hab hc
  have habcd := x_lt habc hd
  have ta := twi_tw a ha
  have tb := twi_tw b hb
  have tab := twi_tw _ hab
  have hta := ta.2.2.2
  have htb := tb.2.2.2
  have htab := tab.2.2.2
  rw [xn ha hb, xn hab hc, xn habc hd, tab.1, xn habcd htab, xn ha (x_lt habcd htab), ta.2.1, tb.2.2.1, xi hta (x_lt htb hb), xi (x_lt hta (x_lt htb hb)) hc, xi (x_lt (x_lt hta (x_lt htb hb)) hc) hd, tw_xor ha hb, mix_nat]
  have := x_lt (x_lt (x_lt hta (x_lt htb hb)) hc) hd
  rw [wrap_u8]; omega
theorem all_rot {a b c d : Int} (ha : Bt a) (hb : Bt b) (hc : Bt c) (hd : Bt d) : bXor .u8 (bXor .u8 (bXor .u8 a b) c) d = bXor .u8 (bXor .u8 (bXor .u8 d a) b) c := by
  obtain ⟨a, rfl, ka⟩ := ha.nat
  obtain ⟨b, rfl, kb⟩ := hb.nat
  obtain ⟨c, rfl, kc⟩ := hc.nat
  obtain ⟨d, rfl, kd⟩ := hd.nat
  clear ha hb hc hd
  have ha := ka
  have hb := kb
  have hc := kc
  have hd := kd
  rw [xn ha hb, xn (x_lt ha hb) hc, xn (x_lt (x_lt ha hb) hc) hd, xn hd ha, xn (x_lt hd ha) hb, xn (x_lt (x_lt hd ha) hb) hc, rot_nat]
/-! ### Loops that set one place after the other -/
theorem itr_s {α : Type} {f : α → Nat → α} {x : α} {n : Nat} : itr f x (n + 1) = f (itr f x n) n := rfl
theorem itr_set {f : List Int → Nat → List Int} {s0 : List Int} {o N : Nat} {g : Nat → Int} (hl : o + N ≤ s0.length)
    (hf : ∀ n s, n < N → s.length = s0.length → (∀ j, o + n ≤ j → getI s j = getI s0 j) → f s n = s.set (o + n) (g n)) :
    ∀ n, n ≤ N → (itr f s0 n).length = s0.length ∧ ∀ j, getI (itr f s0 n) j = if o ≤ j ∧ j < o + n then g (j - o) else getI s0 j
  | 0, _ => ⟨rfl, fun j => by rw [if_neg (by omega)]; rfl⟩
  | n + 1, hn => by
    obtain ⟨h1, h2⟩ := itr_set hl hf n (by omega)
    have e : itr f s0 (n + 1) = (itr f s0 n).set (o + n) (g n) := hf n _ (by omega) h1 fun j hj => by rw [h2, if_neg (by omega)]
    rw [e]
    refine ⟨by rw [List.length_set, h1], fun j => ?_⟩
    rw [getI_set _ _ _ _ (by omega), h2]
    by_cases hj : j = o + n
    · rw [if_pos hj, if_pos (by omega), hj, Nat.add_sub_cancel_left]
    · rw [if_neg hj]
      by_cases hq : o ≤ j ∧ j < o + n
      · rw [if_pos hq, if_pos (by omega)]
      · rw [if_neg hq, if_neg (by omega)]
theorem jn_itr {a b : List Int} : ∀ n, jn a b n = itr (fun s i => s.set i (bXor .u8 (getI s i) (getI b i))) a n
  | 0 => rfl
  | n + 1 => by rw [jn, jn_itr n]; rfl
theorem jn_get {a b : List Int} (ha : a.length = 16) : ∀ j, getI (jn a b 16) j = if j < 16 then bXor .u8 (getI a j) (getI b j) else getI a j := fun j => by
  rw [jn_itr]
  have := (itr_set (s0 := a) (o := 0) (N := 16) (f := fun s i => s.set i (bXor .u8 (getI s i) (getI b i))) (g := fun i => bXor .u8 (getI a i) (getI b i)) (by omega) (fun n s hn hs h => by simp only [Nat.zero_add]; rw [h n (by omega)]) 16 (by omega)).2 j
  rw [this]; simp
theorem shb_get {L b : List Int} : ∀ j, j < 16 → getI (shb L b) j = getI L (176 + (getI b ((j + j % 4 * 4) % 16)).toNat) := fun j hj => by
  have := (itr_set (s0 := z16) (o := 0) (N := 16) (f := sbst L b) (g := fun i => getI L (176 + (getI b ((i + i % 4 * 4) % 16)).toNat)) (by simp [z16]) (fun n s hn hs h => by rw [sbst, Nat.zero_add]) 16 (by omega)).2 j
  rw [shb, this, if_pos (by omega)]; rfl
theorem sbR_get {bx b : List Int} : ∀ j, j < 16 → getI (itr (sbR bx b) z16 16) j = getI bx (getI b ((j + 4 * (j % 4)) % 16)).toNat := fun j hj => by
  have := (itr_set (s0 := z16) (o := 0) (N := 16) (f := sbR bx b) (g := fun i => getI bx (getI b ((i + 4 * (i % 4)) % 16)).toNat) (by simp [z16]) (fun n s hn hs h => by rw [sbR, Nat.zero_add]) 16 (by omega)).2 j
  rw [this, if_pos (by omega)]; rfl
/-- A byte of a column, mixed by the program. -/
def mixP (s : List Int) (j : Nat) : Int := bXor .u8 (getI s j) (bXor .u8 (all4 s (4 * (j / 4))) (twi (bXor .u8 (getI s j) (if j % 4 < 3 then getI s (j + 1) else getI s (4 * (j / 4))))))
theorem mx4_get {s : List Int} (hs : s.length = 16) : ∀ c, c ≤ 4 → (itr mx4 s c).length = 16 ∧ ∀ j, getI (itr mx4 s c) j = if j < 4 * c then mixP s j else getI s j
  | 0, _ => ⟨hs, fun j => by rw [if_neg (by omega)]; rfl⟩
  | c + 1, hc => by
    obtain ⟨h1, h2⟩ := mx4_get hs c (by omega)
    have e : itr mx4 s (c + 1) = mx4 (itr mx4 s c) c := rfl
    rw [e, mx4]
    have hh : ∀ j, 4 * c ≤ j → getI (itr mx4 s c) j = getI s j := fun j hj => by rw [h2, if_neg (by omega)]
    obtain ⟨u, hu⟩ : ∃ u, itr mx4 s c = u := ⟨_, rfl⟩
    rw [hu] at h1 h2 hh ⊢
    have ha : all4 u (4 * c) = all4 s (4 * c) := by simp only [all4]; rw [hh _ (by omega), hh _ (by omega), hh _ (by omega), hh _ (by omega)]
    rw [ha, hh (4 * c) (by omega)]
    obtain ⟨g1, g2⟩ := itr_set (s0 := u) (o := 4 * c) (N := 4) (f := mxk (all4 s (4 * c)) (getI s (4 * c)) (4 * c)) (g := fun k => mixP s (4 * c + k)) (by omega) (fun n w hn hw h => by
      rw [mxk, h _ (by omega), hh _ (by omega)]
      simp only [mixP]
      rw [show (4 * c + n) / 4 = c by omega, show (4 * c + n) % 4 = n by omega]
      by_cases h3 : n < 3
      · rw [if_pos h3, if_pos h3, h _ (by omega), hh _ (by omega)]
      · rw [if_neg h3, if_neg h3]) 4 (by omega)
    refine ⟨by rw [g1, h1], fun j => ?_⟩
    rw [g2]
    by_cases hj : 4 * c ≤ j ∧ j < 4 * c + 4
    · rw [if_pos hj, if_pos (by omega), show 4 * c + (j - 4 * c) = j by omega]
    · rw [if_neg hj, h2]
      by_cases hq : j < 4 * c
      · rw [if_pos hq, if_pos (by omega)]
      · rw [if_neg hq, if_neg (by omega)]
theorem mix_eq {s : List Int} (h : Dig 256 s) {j : Nat} (hj : j < 16) : mixP s j = Go.IntKind.u8.wrap (mixR s j) := by
  have hb : ∀ i, Bt (getI s i) := fun i => h.all (by decide) i
  unfold mixP mixR all4
  obtain ⟨c, k, rfl, hk⟩ : ∃ c k, j = 4 * c + k ∧ k < 4 := ⟨j / 4, j % 4, by omega, by omega⟩
  rw [show (4 * c + k) / 4 = c by omega, show (4 * c + k) % 4 = k by omega, Nat.mul_comm c 4]
  rcases (by omega : k = 0 ∨ k = 1 ∨ k = 2 ∨ k = 3) with rfl | rfl | rfl | rfl
  · rw [if_pos (by decide), show (4 * c + 0 + 1) % 4 = 1 by omega, show (4 * c + 0 + 2) % 4 = 2 by omega, show (4 * c + 0 + 3) % 4 = 3 by omega]
    exact mix_byte (hb _) (hb _) (hb _) (hb _)
  · rw [if_pos (by decide), show (4 * c + 1 + 1) % 4 = 2 by omega, show (4 * c + 1 + 2) % 4 = 3 by omega, show (4 * c + 1 + 3) % 4 = 0 by omega]
    rw [← all_rot (hb (4 * c + 1)) (hb (4 * c + 2)) (hb (4 * c + 3)) (hb (4 * c))]
    exact mix_byte (hb _) (hb _) (hb _) (hb _)
  · rw [if_pos (by decide), show (4 * c + 2 + 1) % 4 = 3 by omega, show (4 * c + 2 + 2) % 4 = 0 by omega, show (4 * c + 2 + 3) % 4 = 1 by omega]
    rw [← all_rot (hb (4 * c + 1)) (hb (4 * c + 2)) (hb (4 * c + 3)) (hb (4 * c)), ← all_rot (hb (4 * c + 2)) (hb (4 * c + 3)) (hb (4 * c)) (hb (4 * c + 1))]
    exact mix_byte (hb _) (hb _) (hb _) (hb _)
  · rw [if_neg (by decide), show (4 * c + 3 + 1) % 4 = 0 by omega, show (4 * c + 3 + 2) % 4 = 1 by omega, show (4 * c + 3 + 3) % 4 = 2 by omega]
    rw [← all_rot (hb (4 * c + 1)) (hb (4 * c + 2)) (hb (4 * c + 3)) (hb (4 * c)), ← all_rot (hb (4 * c + 2)) (hb (4 * c + 3)) (hb (4 * c)) (hb (4 * c + 1)), ← all_rot (hb (4 * c + 3)) (hb (4 * c)) (hb (4 * c + 1)) (hb (4 * c + 2))]
    exact mix_byte (hb _) (hb _) (hb _) (hb _)
/-- A key made ready holds the rounds' keys and the box. -/
structure Same (L K bx : List Int) : Prop where
  key : ∀ j, j < 176 → getI L j = getI K j
  box : ∀ x, x < 256 → getI L (176 + x) = getI bx x
theorem rnd_eq {L K bx b : List Int} (hL : L432 L) (hx : B256 bx) (hS : Same L K bx) (hb : B16 b) {m : Nat} (hm : m < 10) : rnd L b m = rndR bx K b m := by
  have hs : shb L b = itr (sbR bx b) z16 16 := by
    have hA := sbst_ok (b := b) hL 16
    have hB := sbR_ok (b := b) hx 16
    refine getI_ext (hA.1.trans hB.1.symm) fun j hj => ?_
    have hj : j < 16 := by rw [show (shb L b).length = 16 from hA.1] at hj; exact hj
    have hg := hb.2.all (by decide) ((j + 4 * (j % 4)) % 16)
    rw [shb_get j hj, sbR_get j hj, Nat.mul_comm (j % 4) 4, hS.box _ (by omega)]
  have hsd := sbR_ok (b := b) hx 16
  unfold rnd rndR
  rw [hs]
  obtain ⟨s, hse⟩ : ∃ s, itr (sbR bx b) z16 16 = s := ⟨_, rfl⟩
  rw [hse] at hsd ⊢
  obtain ⟨w, hw⟩ : ∃ w, (if m < 9 then itr mx4 s 4 else s) = w := ⟨_, rfl⟩
  have hwl : w.length = 16 := by
    rw [← hw]; split
    · exact (mx4_get hsd.1 4 (by decide)).1
    · exact hsd.1
  have hwg : ∀ j, j < 16 → getI w j = Go.IntKind.u8.wrap (if m < 9 then mixR s j else getI s j) := fun j hj => by
    rw [← hw]
    by_cases h9 : m < 9
    · rw [if_pos h9, if_pos h9, (mx4_get hsd.1 4 (by decide)).2, if_pos (by omega)]
      exact mix_eq hsd.2 hj
    · have := hsd.2.all (by decide) j
      rw [if_neg h9, if_neg h9, wrap_u8]; omega
  rw [hw]
  have hR := rxR_ok (s := s) (K := K) (m := m) hb 16
  refine getI_ext ((jn_len 16).trans (hwl.trans hR.1.symm)) fun j hj => ?_
  have hj : j < 16 := by rw [jn_len, hwl] at hj; exact hj
  have := (itr_set (s0 := b) (o := 0) (N := 16) (f := rxR s K m) (g := fun i => bXor .u8 (Go.IntKind.u8.wrap (if m < 9 then mixR s i else getI s i)) (getI K (16 * (m + 1) + i))) (by rw [hb.1]; omega) (fun n s hn hs h => by rw [rxR, Nat.zero_add]) 16 (by omega)).2 j
  rw [jn_get hwl, if_pos hj, this, if_pos (by omega), hwg j hj, getI_sub hj, hS.key _ (by omega), Nat.sub_zero, Nat.mul_comm (m + 1) 16]
theorem enc_eq {L K bx b : List Int} (hL : L432 L) (hx : B256 bx) (hS : Same L K bx) (hb : B16 b) : encF L b = itr (rndR bx K) (itr (jxR K) b 16) 10 := by
  have h0 : jn b (sub L 0 16) 16 = itr (jxR K) b 16 := by
    refine getI_ext ((jn_len 16).trans (hb.1.trans (jxR_ok (K := K) hb 16).1.symm)) fun j hj => ?_
    have hj : j < 16 := by rw [jn_len, hb.1] at hj; exact hj
    have := (itr_set (s0 := b) (o := 0) (N := 16) (f := jxR K) (g := fun i => bXor .u8 (getI b i) (getI K i)) (by rw [hb.1]; omega) (fun n s hn hs h => by rw [jxR, Nat.zero_add, h _ (by omega)]) 16 (by omega)).2 j
    rw [jn_get hb.1, if_pos hj, this, if_pos (by omega), getI_sub hj, hS.key _ (by omega), Nat.sub_zero, Nat.zero_add]
  unfold encF
  rw [h0]
  have hj := jxR_ok (K := K) hb 16
  obtain ⟨c, hc⟩ : ∃ c, itr (jxR K) b 16 = c := ⟨_, rfl⟩
  rw [hc] at hj ⊢
  have key : ∀ n, n ≤ 10 → itr (rnd L) c n = itr (rndR bx K) c n := by
    intro n
    induction n with
    | zero => intro _; rw [itr, itr]
    | succ n ih =>
      intro hn
      rw [itr_s, itr_s, ih (by omega), rnd_eq hL hx hS (rndR_ok hj n) (by omega)]
  exact key 10 (by decide)
end Am
set_option linter.unusedSimpArgs false
set_option linter.unusedVariables false
set_option maxRecDepth 20000
namespace Am
/-! ### The program's box is the reference's, byte by byte -/
theorem sb0 : ∀ n : Nat, n < 16 → subE ((n + 0 : Nat) : Int) = subR ((n + 0 : Nat) : Int) := by decide +kernel
theorem sb1 : ∀ n : Nat, n < 16 → subE ((n + 16 : Nat) : Int) = subR ((n + 16 : Nat) : Int) := by decide +kernel
theorem sb2 : ∀ n : Nat, n < 16 → subE ((n + 32 : Nat) : Int) = subR ((n + 32 : Nat) : Int) := by decide +kernel
theorem sb3 : ∀ n : Nat, n < 16 → subE ((n + 48 : Nat) : Int) = subR ((n + 48 : Nat) : Int) := by decide +kernel
theorem sb4 : ∀ n : Nat, n < 16 → subE ((n + 64 : Nat) : Int) = subR ((n + 64 : Nat) : Int) := by decide +kernel
theorem sb5 : ∀ n : Nat, n < 16 → subE ((n + 80 : Nat) : Int) = subR ((n + 80 : Nat) : Int) := by decide +kernel
theorem sb6 : ∀ n : Nat, n < 16 → subE ((n + 96 : Nat) : Int) = subR ((n + 96 : Nat) : Int) := by decide +kernel
theorem sb7 : ∀ n : Nat, n < 16 → subE ((n + 112 : Nat) : Int) = subR ((n + 112 : Nat) : Int) := by decide +kernel
theorem sb8 : ∀ n : Nat, n < 16 → subE ((n + 128 : Nat) : Int) = subR ((n + 128 : Nat) : Int) := by decide +kernel
theorem sb9 : ∀ n : Nat, n < 16 → subE ((n + 144 : Nat) : Int) = subR ((n + 144 : Nat) : Int) := by decide +kernel
theorem sb10 : ∀ n : Nat, n < 16 → subE ((n + 160 : Nat) : Int) = subR ((n + 160 : Nat) : Int) := by decide +kernel
theorem sb11 : ∀ n : Nat, n < 16 → subE ((n + 176 : Nat) : Int) = subR ((n + 176 : Nat) : Int) := by decide +kernel
theorem sb12 : ∀ n : Nat, n < 16 → subE ((n + 192 : Nat) : Int) = subR ((n + 192 : Nat) : Int) := by decide +kernel
theorem sb13 : ∀ n : Nat, n < 16 → subE ((n + 208 : Nat) : Int) = subR ((n + 208 : Nat) : Int) := by decide +kernel
theorem sb14 : ∀ n : Nat, n < 16 → subE ((n + 224 : Nat) : Int) = subR ((n + 224 : Nat) : Int) := by decide +kernel
theorem sb15 : ∀ n : Nat, n < 16 → subE ((n + 240 : Nat) : Int) = subR ((n + 240 : Nat) : Int) := by decide +kernel
theorem sub_nat {n : Nat} (h : n < 256) : subE (n : Int) = subR (n : Int) := by
  have hq : n = n % 16 + 16 * (n / 16) := by omega
  have hr : n % 16 < 16 := Nat.mod_lt _ (by decide)
  have hd : n / 16 < 16 := by omega
  rw [hq]
  generalize n % 16 = r at hr
  generalize n / 16 = d at hd
  rcases (by omega : d = 0 ∨ d = 1 ∨ d = 2 ∨ d = 3 ∨ d = 4 ∨ d = 5 ∨ d = 6 ∨ d = 7 ∨ d = 8 ∨ d = 9 ∨ d = 10 ∨ d = 11 ∨ d = 12 ∨ d = 13 ∨ d = 14 ∨ d = 15) with rfl | rfl | rfl | rfl | rfl | rfl | rfl | rfl | rfl | rfl | rfl | rfl | rfl | rfl | rfl | rfl
  · exact sb0 r hr
  · exact sb1 r hr
  · exact sb2 r hr
  · exact sb3 r hr
  · exact sb4 r hr
  · exact sb5 r hr
  · exact sb6 r hr
  · exact sb7 r hr
  · exact sb8 r hr
  · exact sb9 r hr
  · exact sb10 r hr
  · exact sb11 r hr
  · exact sb12 r hr
  · exact sb13 r hr
  · exact sb14 r hr
  · exact sb15 r hr
theorem sub_eq {x : Int} (h : 0 ≤ x ∧ x < 256) : subE x = subR x := by
  obtain ⟨n, rfl⟩ := Int.eq_ofNat_of_zero_le h.1
  exact sub_nat (by omega)
end Am
set_option linter.unusedSimpArgs false
set_option linter.unusedVariables false
set_option maxRecDepth 20000
namespace Am
open Go.Proofs
/-! ### The rounds' keys: the program's are the reference's -/
def vv (W l : List Int) : Nat → Int
  | 0 => bXor .u8 (getI W 0) (getI l 0)
  | 1 => bXor .u8 (getI W 1) (getI l 1)
  | 2 => bXor .u8 (getI W 2) (getI l 2)
  | 3 => bXor .u8 (getI W 3) (getI l 3)
  | n + 4 => bXor .u8 (vv W l n) (getI l (n + 4))
theorem vv_eq {W l : List Int} : ∀ n, vv W l n = bXor .u8 (if n < 4 then getI W n else vv W l (n - 4)) (getI l n)
  | 0 => rfl
  | 1 => rfl
  | 2 => rfl
  | 3 => rfl
  | n + 4 => by rw [vv, if_neg (by omega), Nat.add_sub_cancel]
theorem vv_bt {W l : List Int} (n : Nat) : Bt (vv W l n) := by rw [vv_eq]; exact x8_bd _ _
theorem inn_get {W last L : List Int} {i : Nat} (hW : W.length = 4) (hL : L.length = 432) (hi : i < 11) : ∀ n, n ≤ 16 → (itr (innst last i) (W, L) n).1.length = 4 ∧ (itr (innst last i) (W, L) n).2.length = 432 ∧
    (∀ t, n ≤ t → t < n + 4 → getI (itr (innst last i) (W, L) n).1 (t % 4) = if t < 4 then getI W t else vv W last (t - 4)) ∧
    ∀ j, getI (itr (innst last i) (W, L) n).2 j = if i * 16 ≤ j ∧ j < i * 16 + n then vv W last (j - i * 16) else getI L j
  | 0, _ => ⟨hW, hL, fun t h1 h2 => by rw [if_pos (by omega), Nat.mod_eq_of_lt (by omega)]; rfl, fun j => by rw [if_neg (by omega)]; rfl⟩
  | n + 1, hn => by
    obtain ⟨h1, h2, h3, h4⟩ := inn_get (last := last) hW hL hi n (by omega)
    have e : itr (innst last i) (W, L) (n + 1) = innst last i (itr (innst last i) (W, L) n) n := rfl
    rw [e]
    obtain ⟨⟨w, l⟩, hs⟩ : ∃ s, itr (innst last i) (W, L) n = s := ⟨_, rfl⟩
    rw [hs] at h1 h2 h3 h4 ⊢
    simp only at h1 h2 h3 h4
    have hv : bXor .u8 (getI w (n % 4)) (getI last n) = vv W last n := by rw [h3 n (by omega) (by omega), ← vv_eq]
    simp only [innst, hv]
    refine ⟨by rw [List.length_set, h1], by rw [List.length_set, h2], fun t k1 k2 => ?_, fun j => ?_⟩
    · rw [getI_set _ _ _ _ (by omega)]
      by_cases ht : t = n + 4
      · subst ht
        rw [if_pos (by omega), if_neg (by omega), Nat.add_sub_cancel]
      · rw [if_neg (by omega), h3 t (by omega) (by omega)]
    · rw [getI_set _ _ _ _ (by omega), h4]
      by_cases hj : j = i * 16 + n
      · rw [if_pos hj, if_pos (by omega), hj, Nat.add_sub_cancel_left]
      · rw [if_neg hj]
        by_cases hq : i * 16 ≤ j ∧ j < i * 16 + n
        · rw [if_pos hq, if_pos (by omega)]
        · rw [if_neg hq, if_neg (by omega)]
theorem rkA_get {w ks : List Int} {n : Nat} (hl : ks.length = n) (hn : 16 ≤ n) : ∀ i, i ≤ 4 → (itr (rkA w n) ks i).length = n + i ∧ (∀ j, j < n → getI (itr (rkA w n) ks i) j = getI ks j) ∧ ∀ j, j < i → getI (itr (rkA w n) ks i) (n + j) = bXor .u8 (getI ks (n - 16 + j)) (getI w j)
  | 0, _ => ⟨hl, fun _ _ => rfl, fun j h => absurd h (by omega)⟩
  | i + 1, hi => by
    obtain ⟨h1, h2, h3⟩ := rkA_get (w := w) hl hn i (by omega)
    rw [itr_s]
    obtain ⟨l, hs⟩ : ∃ s, itr (rkA w n) ks i = s := ⟨_, rfl⟩
    rw [hs] at h1 h2 h3 ⊢
    rw [rkA]
    refine ⟨by simp [h1]; omega, fun j hj => ?_, fun j hj => ?_⟩
    · rw [getI_append_left (by omega), h2 j hj]
    · by_cases hq : j < i
      · rw [getI_append_left (by omega), h3 j hq]
      · obtain rfl : j = i := by omega
        rw [getI_append_right (by omega), h2 _ (by omega), h1, Nat.sub_self]; rfl
/-- Four words behind one another. -/
theorem rk4 {bx ks : List Int} {c : Int} {r : Nat} (hk : Kn (16 + 16 * r) ks) (hx : B256 bx) : ∀ q, 1 ≤ q → q ≤ 4 →
    ∃ ks', itr (fun s i => rkS bx s (4 * r + i)) (c, ks) q = (byG c 2 8 0, ks') ∧ Kn (16 + 16 * r + 4 * q) ks' ∧ (∀ j, j < 16 + 16 * r → getI ks' j = getI ks j) ∧
      ∀ i, i < 4 * q → getI ks' (16 + 16 * r + i) = vv (rkW bx (sub ks (12 + 16 * r) 4) c) (sub ks (16 * r) 16) i := by
  intro q
  induction q with
  | zero => intro h; omega
  | succ q ih =>
    intro _ hq
    by_cases h0 : q = 0
    · subst h0
      have e : itr (fun s i => rkS bx s (4 * r + i)) (c, ks) (0 + 1) = rkS bx (c, ks) (4 * r + 0) := rfl
      rw [e, rkS, if_pos (by omega)]
      obtain ⟨h1, h2, h3⟩ := rkA_get (w := rkW bx (sub ks (12 + 4 * (4 * r + 0)) 4) c) hk.1 (by omega) 4 (by omega)
      have hok := rkA_ok (w := rkW bx (sub ks (12 + 4 * (4 * r + 0)) 4) c) (n := 16 + 16 * r) hk 4
      rw [show 16 + 4 * (4 * r + 0) = 16 + 16 * r by omega]
      rw [show 12 + 4 * (4 * r + 0) = 12 + 16 * r by omega] at *
      refine ⟨_, rfl, hok, h2, fun i hi => ?_⟩
      have hW : ∀ j, Bt (getI (rkW bx (sub ks (12 + 16 * r) 4) c) j) := fun j => by
        have hb := fun j => hx.2.all (by decide) j
        unfold rkW
        rcases j with _ | _ | _ | _ | j
        · exact x8_bd _ _
        · exact hb _
        · exact hb _
        · exact hb _
        · exact (show Bt 0 from ⟨Int.le_refl 0, by decide⟩)
      rw [h3 i (by omega), vv_eq, if_pos (by omega), getI_sub (by omega), show 16 + 16 * r - 16 + i = 16 * r + i by omega]
      exact x_comm (hk.2.all (by decide) _) (hW _)
    · obtain ⟨ks', e1, e2, e3, e4⟩ := ih (by omega) (by omega)
      rw [itr_s, e1, rkS, if_neg (by omega)]
      simp only
      have hlen : ks'.length = 16 + 4 * (4 * r + q) := by rw [e2.1]; omega
      obtain ⟨h1, h2, h3⟩ := rkA_get (w := sub ks' (12 + 4 * (4 * r + q)) 4) hlen (by omega) 4 (by omega)
      have hok := rkA_ok (w := sub ks' (12 + 4 * (4 * r + q)) 4) (n := 16 + 4 * (4 * r + q)) e2 4
      refine ⟨_, rfl, by rw [show 16 + 16 * r + 4 * (q + 1) = 16 + 16 * r + 4 * q + 4 by omega]; exact hok, fun j hj => by rw [h2 j (by omega), e3 j hj], fun i hi => ?_⟩
      by_cases hlt : i < 4 * q
      · rw [h2 _ (by omega), e4 i hlt]
      · obtain ⟨t, rfl⟩ : ∃ t, i = 4 * q + t := ⟨i - 4 * q, by omega⟩
        rw [show 16 + 16 * r + (4 * q + t) = 16 + 4 * (4 * r + q) + t by omega, h3 t (by omega), vv_eq, if_neg (by omega), getI_sub (by omega), getI_sub (by omega),
          show 16 + 4 * (4 * r + q) - 16 + t = 16 * r + (4 * q + t) by omega, e3 _ (by omega), show 12 + 4 * (4 * r + q) + t = 16 + 16 * r + (4 * q + t - 4) by omega, e4 _ (by omega)]
        exact x_comm (hk.2.all (by decide) _) (vv_bt _)
theorem itr_add {α : Type} {f : α → Nat → α} {x : α} (m : Nat) : ∀ n, itr f x (m + n) = itr (fun s i => f s (m + i)) (itr f x m) n
  | 0 => rfl
  | n + 1 => by rw [← Nat.add_assoc, itr_s, itr_add m n]; rfl
theorem bxs_get {k : List Int} (hk : k.length = 16) : ∀ n, n ≤ 256 → ∀ j, getI (bxs k n) j = if 176 ≤ j ∧ j < 176 + n then subE ((j - 176 : Nat) : Int) else getI (lay0 k) j := fun n hn j => by
  have hl : (lay0 k).length = 432 := by simp [lay0, hk]
  have := (itr_set (s0 := lay0 k) (o := 176) (N := 256) (f := fun l i => l.set (176 + i) (subE i)) (g := fun i => subE (i : Int)) (by omega) (fun n s hn hs h => rfl) n hn).2 j
  rw [bxs, this]
theorem boxL_get : ∀ x, x < 256 → getI (boxL 256) x = subR (x : Int) := fun x hx => by simp [boxL, getI, hx]
theorem subR_bd (x : Int) : Bt (subR x) := by unfold subR; rw [wrap_u8]; unfold Bt; omega
theorem boxL_ok : B256 (boxL 256) := ⟨boxL_len 256, fun x hx => by
  simp only [boxL, List.mem_map] at hx
  obtain ⟨i, -, rfl⟩ := hx
  exact subR_bd _⟩
theorem byG_tw {x : Int} (h : Bt x) : byG x 2 8 0 = twi x ∧ Bt (twi x) := by
  obtain ⟨n, rfl, hn⟩ := h.nat
  have := twi_tw n hn
  rw [this.2.1, this.1]
  exact ⟨rfl, by unfold Bt; omega⟩
theorem keys_same {k : List Int} (hk : B16 k) : ∀ r, r ≤ 10 → (itr kst (1, bxs k 256) r).1 = (itr (rkS (boxL 256)) (1, k) (4 * r)).1 ∧ Bt (itr kst (1, bxs k 256) r).1 ∧
    (∀ j, j < 16 + 16 * r → getI (itr kst (1, bxs k 256) r).2 j = getI (itr (rkS (boxL 256)) (1, k) (4 * r)).2 j) ∧ ∀ x, x < 256 → getI (itr kst (1, bxs k 256) r).2 (176 + x) = getI (boxL 256) x
  | 0, _ => by
    have e0 : itr kst (1, bxs k 256) 0 = (1, bxs k 256) := by rw [itr]
    have e1 : itr (rkS (boxL 256)) (1, k) (4 * 0) = (1, k) := by rw [Nat.mul_zero, itr]
    rw [e0, e1]
    simp only
    refine ⟨trivial, ⟨by decide, by decide⟩, fun j hj => ?_, fun x hx => ?_⟩
    · rw [bxs_get hk.1 256 (by decide), if_neg (by omega), lay0, getI_append_left (by rw [hk.1]; omega)]
    · rw [bxs_get hk.1 256 (by decide), if_pos (by omega), Nat.add_sub_cancel_left, boxL_get x hx, sub_eq ⟨by omega, by omega⟩]
  | r + 1, hr => by
    obtain ⟨h1, h2, h3, h4⟩ := keys_same hk r (by omega)
    have hok := keys_ok (bxs_ok hk.1 hk.2 256) r
    have hkn := rks_ok (bx := boxL 256) hk (4 * r)
    rw [itr_s, show 4 * (r + 1) = 4 * r + 4 by omega, itr_add (4 * r) 4]
    obtain ⟨⟨x, L⟩, hs⟩ : ∃ s, itr kst (1, bxs k 256) r = s := ⟨_, rfl⟩
    obtain ⟨⟨c, ks⟩, hs2⟩ : ∃ s, itr (rkS (boxL 256)) (1, k) (4 * r) = s := ⟨_, rfl⟩
    rw [hs, hs2] at h1 h3
    rw [hs] at h2 h4 hok
    rw [hs2] at hkn
    rw [hs, hs2]
    simp only at h1 h2 h3 h4 hok hkn
    rw [show 16 + 4 * (4 * r) = 16 + 16 * r by omega] at hkn
    subst h1
    obtain ⟨ks', e1, e2, e3, e4⟩ := rk4 (c := x) hkn boxL_ok 4 (by decide) (by decide)
    rw [e1]
    have hl : sub L (r * 16) 16 = sub ks (16 * r) 16 := by
      refine getI_ext (by simp [sub, hok.1, hkn.1]; omega) fun j hj => ?_
      have hj : j < 16 := by simp [sub] at hj; omega
      rw [getI_sub hj, getI_sub hj, Nat.mul_comm r 16, h3 _ (by omega)]
    have hld : ∀ j, Bt (getI ks j) := fun j => hkn.2.all (by decide) j
    have hg : ∀ j, j < 16 → getI (sub ks (16 * r) 16) j = getI ks (16 * r + j) := fun j hj => getI_sub hj
    have hw : ∀ j, j < 4 → getI (sub ks (12 + 16 * r) 4) j = getI ks (16 * r + (12 + j)) := fun j hj => by rw [getI_sub hj]; congr 1; omega
    have hxw : Go.IntKind.u8.wrap x = x := by have := h2.1; have := h2.2; rw [wrap_u8]; omega
    have hb : ∀ j, getI L (176 + (getI ks j).toNat) = getI (boxL 256) (getI ks j).toNat := fun j => h4 _ (by have := hld j; unfold Bt at this; omega)
    have hkw : kw x L (sub ks (16 * r) 16) = rkW (boxL 256) (sub ks (12 + 16 * r) 4) x := by
      rw [kw, rkW, hg _ (by decide), hg _ (by decide), hg _ (by decide), hg _ (by decide), hw _ (by decide), hw _ (by decide), hw _ (by decide), hw _ (by decide), hxw, hb, hb, hb, hb]
    simp only [kst]
    rw [hl, hkw]
    obtain ⟨W, hW⟩ : ∃ W, rkW (boxL 256) (sub ks (12 + 16 * r) 4) x = W := ⟨_, rfl⟩
    obtain ⟨l, hle⟩ : ∃ l, sub ks (16 * r) 16 = l := ⟨_, rfl⟩
    have Wl : W.length = 4 := by rw [← hW]; rfl
    rw [hW, hle] at e4 ⊢
    obtain ⟨i1, i2, i3, i4⟩ := inn_get (last := l) (i := r + 1) Wl hok.1 (by omega) 16 (by omega)
    have hbg := byG_tw h2
    refine ⟨hbg.1.symm, hbg.2, fun j hj => ?_, fun y hy => ?_⟩
    · rw [i4]
      by_cases hq : j < 16 + 16 * r
      · rw [if_neg (by omega), h3 j hq, e3 j hq]
      · rw [if_pos (by omega)]
        obtain ⟨t, rfl⟩ : ∃ t, j = 16 + 16 * r + t := ⟨j - (16 + 16 * r), by omega⟩
        rw [e4 t (by omega), show 16 + 16 * r + t - (r + 1) * 16 = t by omega]
    · rw [i4, if_neg (by omega), h4 y hy]
theorem same_key {k : List Int} (hk : B16 k) : Same (newF k) (keysR (boxL 256) k) (boxL 256) :=
  ⟨fun j hj => (keys_same hk 10 (by decide)).2.2.1 j hj, (keys_same hk 10 (by decide)).2.2.2⟩
/-- The program's blocks are the reference's. -/
theorem aes_eq {k b : List Int} (hk : B16 k) (hb : B16 b) : encF (newF k) b = encR (boxL 256) k b := by
  rw [enc_eq (new_ok hk) boxL_ok (same_key hk) hb, encR]
end Am
set_option linter.unusedSimpArgs false
set_option linter.unusedVariables false
set_option maxRecDepth 20000
namespace Am
open Go.Proofs
/-! ### The box, written out -/
def SB : List Int := [99, 124, 119, 123, 242, 107, 111, 197, 48, 1, 103, 43, 254, 215, 171, 118, 202, 130, 201, 125, 250, 89, 71, 240, 173, 212, 162, 175, 156, 164, 114, 192, 183, 253, 147, 38, 54, 63, 247, 204, 52, 165, 229, 241, 113, 216, 49, 21, 4, 199, 35, 195, 24, 150, 5, 154, 7, 18, 128, 226, 235, 39, 178, 117, 9, 131, 44, 26, 27, 110, 90, 160, 82, 59, 214, 179, 41, 227, 47, 132, 83, 209, 0, 237, 32, 252, 177, 91, 106, 203, 190, 57, 74, 76, 88, 207, 208, 239, 170, 251, 67, 77, 51, 133, 69, 249, 2, 127, 80, 60, 159, 168, 81, 163, 64, 143, 146, 157, 56, 245, 188, 182, 218, 33, 16, 255, 243, 210, 205, 12, 19, 236, 95, 151, 68, 23, 196, 167, 126, 61, 100, 93, 25, 115, 96, 129, 79, 220, 34, 42, 144, 136, 70, 238, 184, 20, 222, 94, 11, 219, 224, 50, 58, 10, 73, 6, 36, 92, 194, 211, 172, 98, 145, 149, 228, 121, 231, 200, 55, 109, 141, 213, 78, 169, 108, 86, 244, 234, 101, 122, 174, 8, 186, 120, 37, 46, 28, 166, 180, 198, 232, 221, 116, 31, 75, 189, 139, 138, 112, 62, 181, 102, 72, 3, 246, 14, 97, 53, 87, 185, 134, 193, 29, 158, 225, 248, 152, 17, 105, 217, 142, 148, 155, 30, 135, 233, 206, 85, 40, 223, 140, 161, 137, 13, 191, 230, 66, 104, 65, 153, 45, 15, 176, 84, 187, 22]
def SI : List Nat := [82, 9, 106, 213, 48, 54, 165, 56, 191, 64, 163, 158, 129, 243, 215, 251, 124, 227, 57, 130, 155, 47, 255, 135, 52, 142, 67, 68, 196, 222, 233, 203, 84, 123, 148, 50, 166, 194, 35, 61, 238, 76, 149, 11, 66, 250, 195, 78, 8, 46, 161, 102, 40, 217, 36, 178, 118, 91, 162, 73, 109, 139, 209, 37, 114, 248, 246, 100, 134, 104, 152, 22, 212, 164, 92, 204, 93, 101, 182, 146, 108, 112, 72, 80, 253, 237, 185, 218, 94, 21, 70, 87, 167, 141, 157, 132, 144, 216, 171, 0, 140, 188, 211, 10, 247, 228, 88, 5, 184, 179, 69, 6, 208, 44, 30, 143, 202, 63, 15, 2, 193, 175, 189, 3, 1, 19, 138, 107, 58, 145, 17, 65, 79, 103, 220, 234, 151, 242, 207, 206, 240, 180, 230, 115, 150, 172, 116, 34, 231, 173, 53, 133, 226, 249, 55, 232, 28, 117, 223, 110, 71, 241, 26, 113, 29, 41, 197, 137, 111, 183, 98, 14, 170, 24, 190, 27, 252, 86, 62, 75, 198, 210, 121, 32, 154, 219, 192, 254, 120, 205, 90, 244, 31, 221, 168, 51, 136, 7, 199, 49, 177, 18, 16, 89, 39, 128, 236, 95, 96, 81, 127, 169, 25, 181, 74, 13, 45, 229, 122, 159, 147, 201, 156, 239, 160, 224, 59, 77, 174, 42, 245, 176, 200, 235, 187, 60, 131, 83, 153, 97, 23, 43, 4, 126, 186, 119, 214, 38, 225, 105, 20, 99, 85, 33, 12, 125]
theorem se0 : ∀ n : Nat, n < 32 → subE ((n + 0 : Nat) : Int) = getI SB (n + 0) := by decide +kernel
theorem se1 : ∀ n : Nat, n < 32 → subE ((n + 32 : Nat) : Int) = getI SB (n + 32) := by decide +kernel
theorem se2 : ∀ n : Nat, n < 32 → subE ((n + 64 : Nat) : Int) = getI SB (n + 64) := by decide +kernel
theorem se3 : ∀ n : Nat, n < 32 → subE ((n + 96 : Nat) : Int) = getI SB (n + 96) := by decide +kernel
theorem se4 : ∀ n : Nat, n < 32 → subE ((n + 128 : Nat) : Int) = getI SB (n + 128) := by decide +kernel
theorem se5 : ∀ n : Nat, n < 32 → subE ((n + 160 : Nat) : Int) = getI SB (n + 160) := by decide +kernel
theorem se6 : ∀ n : Nat, n < 32 → subE ((n + 192 : Nat) : Int) = getI SB (n + 192) := by decide +kernel
theorem se7 : ∀ n : Nat, n < 32 → subE ((n + 224 : Nat) : Int) = getI SB (n + 224) := by decide +kernel
theorem sub_SB {n : Nat} (h : n < 256) : subE (n : Int) = getI SB n := by
  have hq : n = n % 32 + 32 * (n / 32) := by omega
  have hr : n % 32 < 32 := Nat.mod_lt _ (by decide)
  have hd : n / 32 < 8 := by omega
  rw [hq]
  generalize n % 32 = r at hr
  generalize n / 32 = d at hd
  rcases (by omega : d = 0 ∨ d = 1 ∨ d = 2 ∨ d = 3 ∨ d = 4 ∨ d = 5 ∨ d = 6 ∨ d = 7) with rfl | rfl | rfl | rfl | rfl | rfl | rfl | rfl
  · exact se0 r hr
  · exact se1 r hr
  · exact se2 r hr
  · exact se3 r hr
  · exact se4 r hr
  · exact se5 r hr
  · exact se6 r hr
  · exact se7 r hr
theorem box_SB : boxL 256 = SB := by
  refine getI_ext (by rw [boxL_len]; rfl) fun j hj => ?_
  rw [boxL_len] at hj
  rw [boxL_get j hj, ← sub_eq ⟨by omega, by omega⟩, sub_SB hj]
theorem SB_inv : ∀ n : Nat, n < 256 → SI.getD (getI SB n).toNat 0 = n := by decide +kernel
def kA : List Int := [0, 1, 2, 3, 4, 5, 6, 7, 8, 9, 10, 11, 12, 13, 14, 15]
def bA : List Int := [0, 17, 34, 51, 68, 85, 102, 119, 136, 153, 170, 187, 204, 221, 238, 255]
theorem aw08 : ((getI (encR SB kA bA) 0 = 105 ∧ getI (encR SB kA bA) 1 = 196) ∧ getI (encR SB kA bA) 2 = 224) ∧ getI (encR SB kA bA) 15 = 90 := by decide +kernel
end Am
