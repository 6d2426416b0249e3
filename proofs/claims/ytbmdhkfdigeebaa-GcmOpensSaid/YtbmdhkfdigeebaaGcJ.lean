/-
Working texts: contracts of functions, and the numbers behind them.
-/
import Derived.Test.YtbmdhkfdigeebaaGcE
set_option linter.unusedSimpArgs false
set_option linter.unusedVariables false
set_option linter.unusedSectionVars false
set_option linter.unusedSimpArgs false
set_option linter.unusedVariables false
set_option maxRecDepth 20000
namespace Am
open Go.Proofs
/-! ### The reference's product is the program's -/
/-- A bit of a block, and of two halves; the number's lowest bit is the first. -/
def Bb (b : List Int) (i : Nat) : Bool := nb (getI b (15 - i / 8)) (i % 8)
def Hb (h : Int × Int) (i : Nat) : Bool := if i < 64 then nb h.2 i else nb h.1 (i - 64)
def W2 (h : Int × Int) : Prop := Wd h.1 ∧ Wd h.2
theorem w2_ext {g h : Int × Int} (hg : W2 g) (hh : W2 h) (e : ∀ i, i < 128 → Hb g i = Hb h i) : g = h := by
  obtain ⟨g1, g2⟩ := g
  obtain ⟨h1, h2⟩ := h
  have e2 : g2 = h2 := wd_ext hg.2 hh.2 fun i hi => by
    have := e i (by omega)
    simpa [Hb, hi] using this
  have e1 : g1 = h1 := wd_ext hg.1 hh.1 fun i hi => by
    have := e (i + 64) (by omega)
    simpa [Hb, show ¬ i + 64 < 64 by omega] using this
  rw [e1, e2]
theorem bt_wd {x : Int} (h : Bt x) : Wd x := ⟨h.1, by have := h.2; omega⟩
theorem shl8 {x : Int} (hx : Wd x) : Wd (iShl .u64 x 8) ∧ ∀ i, nb (iShl .u64 x 8) i = (decide (i < 64) && (decide (8 ≤ i) && nb x (i - 8))) := wd_shl hx (s := 8) (by decide)
theorem shl63 {x : Int} (hx : Wd x) : Wd (iShl .u64 x 63) ∧ ∀ i, nb (iShl .u64 x 63) i = (decide (i < 64) && (decide (63 ≤ i) && nb x (i - 63))) := wd_shl hx (s := 63) (by decide)
theorem shr1 {x : Int} (hx : Wd x) : Wd (iShr .u64 x 1) ∧ ∀ i, nb (iShr .u64 x 1) i = nb x (i + 1) := wd_shr hx (s := 1) (by decide)
theorem Hb_lo {h : Int × Int} {i : Nat} (hi : i < 64) : Hb h i = nb h.2 i := by rw [Hb, if_pos hi]
theorem Hb_hi {h : Int × Int} {i : Nat} (hi : ¬ i < 64) : Hb h i = nb h.1 (i - 64) := by rw [Hb, if_neg hi]
theorem of_step {b : List Int} (hb : B16 b) : ∀ n, n ≤ 8 → W2 (itr (ofS b) (0, 0) n) ∧
    (∀ i, i < 64 → nb (itr (ofS b) (0, 0) n).1 i = (decide (i < 8 * n) && nb (getI b (n - 1 - i / 8)) (i % 8))) ∧
    (∀ i, i < 64 → nb (itr (ofS b) (0, 0) n).2 i = (decide (i < 8 * n) && nb (getI b (8 + (n - 1 - i / 8))) (i % 8)))
  | 0, _ => ⟨⟨⟨by simp [itr], by simp [itr]⟩, ⟨by simp [itr], by simp [itr]⟩⟩, fun i _ => by simp [itr, nb], fun i _ => by simp [itr, nb]⟩
  | n + 1, hn => by
    obtain ⟨⟨w1, w2⟩, h1, h2⟩ := of_step hb n (by omega)
    rw [itr_s]
    have b1 : Bt (getI b n) := hb.2.all (by decide) n
    have b2 : Bt (getI b (8 + n)) := hb.2.all (by decide) (8 + n)
    have s1 := shl8 w1
    have s2 := shl8 w2
    have o1 := wd_or s1.1 (bt_wd b1)
    have o2 := wd_or s2.1 (bt_wd b2)
    have key : ∀ (f : Nat → Int) (x y : Int) (hy : Bt y) (hx : ∀ i, i < 64 → nb x i = (decide (i < 8 * n) && nb (f (n - 1 - i / 8)) (i % 8))) (hf : f n = y) (i : Nat) (hi : i < 64),
        ((decide (i < 64) && (decide (8 ≤ i) && nb x (i - 8))) || nb y i) = (decide (i < 8 * (n + 1)) && nb (f (n + 1 - 1 - i / 8)) (i % 8)) := by
      intro f x y hy hx hf i hi
      by_cases h8 : 8 ≤ i
      · rw [nb_hi8 hy h8, hx _ (by omega), show n + 1 - 1 - i / 8 = n - 1 - (i - 8) / 8 by omega, show (i - 8) % 8 = i % 8 by omega]
        by_cases hlt : i < 8 * (n + 1)
        · simp [hi, h8, hlt, show i - 8 < 8 * n by omega]
        · simp [hi, h8, hlt, show ¬ i - 8 < 8 * n by omega]
      · rw [show i % 8 = i by omega, show i / 8 = 0 by omega, show n + 1 - 1 - 0 = n by omega, hf]
        simp [h8, show i < 8 * (n + 1) by omega]
    refine ⟨⟨o1.1, o2.1⟩, fun i hi => ?_, fun i hi => ?_⟩
    · show nb (bOr .u64 _ _) i = _
      rw [o1.2, s1.2]
      exact key (fun j => getI b j) _ _ b1 h1 rfl i hi
    · show nb (bOr .u64 _ _) i = _
      rw [o2.2, s2.2]
      exact key (fun j => getI b (8 + j)) _ _ b2 h2 rfl i hi
theorem of_w2 {b : List Int} (hb : B16 b) : W2 (ofF b) := (of_step hb 8 (by decide)).1
theorem of_bit {b : List Int} (hb : B16 b) {i : Nat} (hi : i < 128) : Hb (ofF b) i = Bb b i := by
  obtain ⟨-, h1, h2⟩ := of_step hb 8 (by decide)
  unfold Hb Bb
  split
  · rename_i h
    show nb (itr (ofS b) (0, 0) 8).2 i = _
    rw [h2 i h, show 8 + (8 - 1 - i / 8) = 15 - i / 8 by omega]
    simp [show i < 8 * 8 by omega]
  · rename_i h
    show nb (itr (ofS b) (0, 0) 8).1 (i - 64) = _
    rw [h1 _ (by omega), show 8 - 1 - (i - 64) / 8 = 15 - i / 8 by omega, show (i - 64) % 8 = i % 8 by omega]
    simp [show i - 64 < 8 * 8 by omega]
theorem bb_ext {a b : List Int} (ha : B16 a) (hb : B16 b) (e : ∀ i, i < 128 → Bb a i = Bb b i) : a = b := by
  refine getI_ext (ha.1.trans hb.1.symm) fun j hj => ?_
  rw [ha.1] at hj
  have b1 : Bt (getI a j) := ha.2.all (by decide) j
  have b2 : Bt (getI b j) := hb.2.all (by decide) j
  refine wd_ext (bt_wd b1) (bt_wd b2) fun i _ => ?_
  by_cases h8 : 8 ≤ i
  · rw [nb_hi8 b1 h8, nb_hi8 b2 h8]
  · have := e (8 * (15 - j) + i) (by omega)
    unfold Bb at this
    rwa [show 15 - (8 * (15 - j) + i) / 8 = j by omega, show (8 * (15 - j) + i) % 8 = i by omega] at this
/-! What a round does with bits. -/
def cc (i : Nat) : Bool := decide (120 ≤ i) && Nat.testBit 225 (i - 120)
def shB (g : Nat → Bool) (i : Nat) : Bool := (decide (i < 127) && g (i + 1)) ^^ (g 0 && cc i)
theorem cc_hi : ∀ i, i < 128 → cc i = (decide (64 ≤ i) && Nat.testBit 16212958658533785600 (i - 64)) := by decide +kernel
theorem nb_nat' {n : Nat} {x : Int} (h : x = n) (i : Nat) : nb x i = n.testBit i := by rw [h, nb_nat]
theorem tm_bit {h : Int × Int} (hh : W2 h) {t : Nat} (ht : t < 128) : tmB h.1 h.2 t = if Hb h (127 - t) then 1 else 0 := by
  unfold tmB
  have hs : 63 - t % 64 < 64 := by omega
  split
  · have w := wd_shr hh.2 hs
    rw [wd_low w.1, w.2]
    unfold Hb
    rw [if_pos (show 127 - t < 64 by omega), show 0 + (63 - t % 64) = 127 - t by omega]
  · have w := wd_shr hh.1 hs
    rw [wd_low w.1, w.2]
    unfold Hb
    rw [if_neg (show ¬ 127 - t < 64 by omega), show 0 + (63 - t % 64) = 127 - t - 64 by omega]
theorem nb_c (i : Nat) : nb 16212958658533785600 i = Nat.testBit 16212958658533785600 i := nb_nat' rfl i
theorem tm_step {h : Int × Int} (hh : W2 h) {p1 p2 b1 b2 : Int} (h1 : W2 (p1, p2)) (h2 : W2 (b1, b2)) {t : Nat} (ht : t < 128) :
    (W2 (tmS h.1 h.2 ((p1, p2), (b1, b2)) t).1 ∧ W2 (tmS h.1 h.2 ((p1, p2), (b1, b2)) t).2) ∧ ∀ i, i < 128 → Hb (tmS h.1 h.2 ((p1, p2), (b1, b2)) t).1 i = (Hb (p1, p2) i ^^ (Hb h (127 - t) && Hb (b1, b2) i)) ∧ Hb (tmS h.1 h.2 ((p1, p2), (b1, b2)) t).2 i = shB (Hb (b1, b2)) i := by
  have tb := tm_bit hh ht
  obtain ⟨c, hc⟩ : ∃ c, Hb h (127 - t) = c := ⟨_, rfl⟩
  rw [hc] at tb ⊢
  obtain ⟨p1w, p2w⟩ : Wd p1 ∧ Wd p2 := h1
  obtain ⟨b1w, b2w⟩ : Wd b1 ∧ Wd b2 := h2
  have m1 := wd_mask b1w c
  have m2 := wd_mask b2w c
  have x1 := wd_xor p1w m1.1
  have x2 := wd_xor p2w m2.1
  have cw : Wd 16212958658533785600 := ⟨by decide, by decide⟩
  have mc := wd_mask cw (nb b2 0)
  have r1 := shr1 b1w
  have r2 := shr1 b2w
  have l1 := shl63 b1w
  have y1 := wd_xor r1.1 mc.1
  have y2 := wd_or r2.1 l1.1
  have e : tmS h.1 h.2 ((p1, p2), (b1, b2)) t = ((bXor .u64 p1 (bAnd .u64 b1 (Go.IntKind.u64.wrap (0 - (if c then 1 else 0)))), bXor .u64 p2 (bAnd .u64 b2 (Go.IntKind.u64.wrap (0 - (if c then 1 else 0))))),
      (bXor .u64 (iShr .u64 b1 1) (bAnd .u64 16212958658533785600 (Go.IntKind.u64.wrap (0 - (if nb b2 0 then 1 else 0)))), bOr .u64 (iShr .u64 b2 1) (iShl .u64 b1 63))) := by
    simp only [tmS, tb, wd_low b2w]
  rw [e]
  refine ⟨⟨⟨x1.1, x2.1⟩, ⟨y1.1, y2.1⟩⟩, fun i hi => ⟨?_, ?_⟩⟩
  · by_cases h64 : i < 64
    · simp only [Hb_lo h64]
      rw [x2.2, m2.2]
    · simp only [Hb_hi h64]
      rw [x1.2, m1.2]
  · have h0 : Hb (b1, b2) 0 = nb b2 0 := rfl
    rw [shB, cc_hi i hi, h0]
    by_cases h64 : i < 64
    · rw [Hb_lo h64]
      show nb (bOr .u64 (iShr .u64 b2 1) (iShl .u64 b1 63)) i = _
      rw [y2.2, r2.2, l1.2]
      simp only [h64, show ¬ 64 ≤ i by omega, decide_true, decide_false, Bool.true_and, Bool.false_and, Bool.and_false, Bool.xor_false, show i < 127 by omega]
      by_cases h63 : i = 63
      · subst h63
        rw [Hb_hi (by decide), nb_hi b2w (by decide)]
        simp
      · rw [Hb_lo (by omega)]
        simp [show ¬ 63 ≤ i by omega]
    · rw [Hb_hi h64, Hb_hi (show ¬ i + 1 < 64 by omega)]
      show nb (bXor .u64 (iShr .u64 b1 1) _) (i - 64) = _
      rw [y1.2, r1.2, mc.2, nb_c]
      simp only [show 64 ≤ i by omega, decide_true, Bool.true_and]
      by_cases h127 : i < 127
      · simp [h127, show i - 64 + 1 = i + 1 - 64 by omega]
      · rw [show i - 64 + 1 = 64 by omega, nb_hi b1w (by decide)]
        simp [h127]
end Am
set_option linter.unusedSimpArgs false
set_option linter.unusedVariables false
set_option maxRecDepth 20000
namespace Am
open Go.Proofs
/-! ### A block moved by a bit, byte by byte -/
theorem getI_st {l : List Int} {i j : Nat} {v : Int} : getI (l.set i v) j = if i = j ∧ j < l.length then v else getI l j := by
  simp only [getI, List.getD_eq_getElem?_getD, List.getElem?_set]
  by_cases h : i = j
  · subst h
    by_cases h2 : i < l.length
    · simp [h2]
    · simp [h2]
  · simp [h]
def lowI (b : List Int) (n : Nat) : Bool := decide (0 < n) && nb (getI b (n - 1)) 0
theorem bt_c7 (l : Bool) : Bt (iShl .u8 (if l then 1 else 0) 7) ∧ ∀ r, r < 8 → nb (iShl .u8 (if l then 1 else 0) 7) r = (decide (r = 7) && l) := by
  cases l
  · exact ⟨⟨by decide, by decide⟩, by decide +kernel⟩
  · exact ⟨⟨by decide, by decide⟩, by decide +kernel⟩
theorem shr8 {x : Int} (hx : Bt x) : Bt (iShr .u8 x 1) ∧ ∀ i, nb (iShr .u8 x 1) i = nb x (i + 1) := bt_shr hx (s := 1) (by decide)
theorem sh_byte {x : Int} (hx : Bt x) (l : Bool) : Bt (bOr .u8 (iShr .u8 x 1) (iShl .u8 (if l then 1 else 0) 7)) ∧ ∀ r, r < 8 → nb (bOr .u8 (iShr .u8 x 1) (iShl .u8 (if l then 1 else 0) 7)) r = (nb x (r + 1) || (decide (r = 7) && l)) := by
  have h1 := shr8 hx
  have h2 := bt_c7 l
  exact ⟨(or_bt h1.1 h2.1).1, fun r hr => by rw [bt_or h1.1 h2.1, h1.2, h2.2 r hr]⟩
theorem sh_step {b : List Int} (hb : B16 b) : ∀ n, n ≤ 16 → B16 (shI b n).1 ∧ (shI b n).2 = (if lowI b n then 1 else 0) ∧ (∀ j, n ≤ j → getI (shI b n).1 j = getI b j) ∧
    ∀ j, j < n → ∀ r, r < 8 → nb (getI (shI b n).1 j) r = (nb (getI b j) (r + 1) || (decide (r = 7) && lowI b j))
  | 0, _ => ⟨hb, by simp [shI, itr, lowI], fun j _ => rfl, fun j hj => by omega⟩
  | n + 1, hn => by
    obtain ⟨h1, h2, h3, h4⟩ := sh_step hb n (by omega)
    have e : shI b (n + 1) = shS (shI b n) n := rfl
    obtain ⟨⟨s, c⟩, hs⟩ : ∃ r, shI b n = r := ⟨_, rfl⟩
    rw [hs] at h1 h2 h3 h4 e
    simp only at h1 h2 h3 h4
    have hx : Bt (getI b n) := hb.2.all (by decide) n
    have hv := sh_byte hx (lowI b n)
    rw [e]
    simp only [shS, h2, h3 n (by omega)]
    refine ⟨⟨by simp [h1.1], h1.2.set _ hv.1.1 hv.1.2⟩, ?_, fun j hj => ?_, fun j hj r hr => ?_⟩
    · rw [bt_low hx, lowI]
      simp
    · rw [getI_st, if_neg (by omega), h3 j (by omega)]
    · rw [getI_st]
      by_cases hjn : n = j
      · subst hjn
        rw [if_pos ⟨rfl, by rw [h1.1]; omega⟩, hv.2 r hr]
      · rw [if_neg (by omega), h4 j (by omega) r hr]
theorem sh_ok {b : List Int} (hb : B16 b) : B16 (shF b) ∧ ∀ i, i < 128 → Bb (shF b) i = shB (Bb b) i := by
  obtain ⟨h1, h2, -, h4⟩ := sh_step hb 16 (by decide)
  have hc : lowI b 16 = Bb b 0 := by simp [lowI, Bb]
  have hs : ∀ i, i < 128 → Bb (shI b 16).1 i = (decide (i < 127) && Bb b (i + 1)) := fun i hi => by
    unfold Bb
    rw [h4 _ (by omega) _ (by omega)]
    have hbt : Bt (getI b (15 - i / 8)) := hb.2.all (by decide) _
    by_cases h7 : i % 8 = 7
    · rw [h7, nb_hi8 hbt (by decide), lowI]
      by_cases hi2 : i < 127
      · rw [show 15 - (i + 1) / 8 = 15 - i / 8 - 1 by omega, show (i + 1) % 8 = 0 by omega]
        simp [hi2, show 0 < 15 - i / 8 by omega]
      · simp [hi2, show ¬ 0 < 15 - i / 8 by omega]
    · rw [show (i + 1) / 8 = i / 8 by omega, show (i + 1) % 8 = i % 8 + 1 by omega]
      simp [h7, show i < 127 by omega]
  unfold shF
  rw [h2, hc]
  obtain ⟨s, hse⟩ : ∃ s, (shI b 16).1 = s := ⟨_, rfl⟩
  rw [hse] at h1 hs ⊢
  have b0 : Bt (getI s 0) := h1.2.all (by decide) 0
  by_cases h0 : Bb b 0 = true
  · simp only [h0, if_true]
    have hx : Bt (bXor .u8 (getI s 0) 225) := x8_bd _ _
    refine ⟨⟨by simp [h1.1], h1.2.set _ hx.1 hx.2⟩, fun i hi => ?_⟩
    rw [shB, ← hs i hi, h0, Bool.true_and, cc]
    unfold Bb
    rw [getI_st]
    by_cases h120 : 120 ≤ i
    · rw [if_pos ⟨by omega, by rw [h1.1]; omega⟩, bt_xor b0 (show Bt 225 from ⟨by decide, by decide⟩), show 15 - i / 8 = 0 by omega, show i % 8 = i - 120 by omega, show nb 225 (i - 120) = Nat.testBit 225 (i - 120) from nb_nat' (n := 225) rfl _]
      simp [h120]
    · rw [if_neg (by omega)]
      simp [h120]
  · have h0' : Bb b 0 = false := by simpa using h0
    simp only [h0', Bool.false_eq_true, if_false]
    have : ¬ ((0 : Int) = 1) := by decide
    rw [if_neg this]
    exact ⟨h1, fun i hi => by rw [shB, ← hs i hi, h0']; simp⟩
theorem jn_bit {p b : List Int} (hp : B16 p) (hb : B16 b) {i : Nat} (hi : i < 128) : Bb (jn p b 16) i = (Bb p i ^^ Bb b i) := by
  unfold Bb
  rw [jn_get hp.1, if_pos (by omega), bt_xor (hp.2.all (by decide) _) (hb.2.all (by decide) _)]
theorem bk_bit {a : List Int} (ha : B16 a) {t : Nat} (ht : t < 128) : bkB a t = if Bb a (127 - t) then 1 else 0 := by
  have hbt : Bt (getI a (t / 8)) := ha.2.all (by decide) _
  have h := bt_shr hbt (s := 7 - t % 8) (by omega)
  rw [bkB, bt_low h.1, h.2]
  unfold Bb
  rw [show 15 - (127 - t) / 8 = t / 8 by omega, show (127 - t) % 8 = 0 + (7 - t % 8) by omega]
theorem shB_congr {f g : Nat → Bool} (h : ∀ i, i < 128 → f i = g i) {i : Nat} (hi : i < 128) : shB f i = shB g i := by
  unfold shB
  rw [h 0 (by omega)]
  by_cases h1 : i < 127
  · rw [h (i + 1) (by omega)]
  · simp [h1]
theorem bk_agree {a b : List Int} (ha : B16 a) (hb : B16 b) : ∀ n, n ≤ 128 → (B16 (bkI a b n).1 ∧ B16 (bkI a b n).2) ∧ (W2 (tmI (ofF a).1 (ofF a).2 (ofF b).1 (ofF b).2 n).1 ∧ W2 (tmI (ofF a).1 (ofF a).2 (ofF b).1 (ofF b).2 n).2) ∧
    ∀ i, i < 128 → Hb (tmI (ofF a).1 (ofF a).2 (ofF b).1 (ofF b).2 n).1 i = Bb (bkI a b n).1 i ∧ Hb (tmI (ofF a).1 (ofF a).2 (ofF b).1 (ofF b).2 n).2 i = Bb (bkI a b n).2 i
  | 0, _ => by
    refine ⟨⟨z16_ok, hb⟩, ⟨⟨⟨by simp [tmI, itr], by simp [tmI, itr]⟩, ⟨by simp [tmI, itr], by simp [tmI, itr]⟩⟩, of_w2 hb⟩, fun i hi => ⟨?_, of_bit hb hi⟩⟩
    have z : ∀ j, getI z16 j = 0 := fun j => by
      simp only [getI, z16, List.getD_eq_getElem?_getD, List.getElem?_replicate]
      split <;> rfl
    show Hb (0, 0) i = Bb z16 i
    unfold Hb Bb
    rw [z]
    simp [nb]
  | n + 1, hn => by
    obtain ⟨⟨c1, c2⟩, ⟨w1, w2⟩, hbits⟩ := bk_agree ha hb n (by omega)
    have e1 : bkI a b (n + 1) = bkS a (bkI a b n) n := rfl
    have e2 : tmI (ofF a).1 (ofF a).2 (ofF b).1 (ofF b).2 (n + 1) = tmS (ofF a).1 (ofF a).2 (tmI (ofF a).1 (ofF a).2 (ofF b).1 (ofF b).2 n) n := rfl
    rw [e1, e2]
    obtain ⟨⟨⟨p1, p2⟩, ⟨q1, q2⟩⟩, hs⟩ : ∃ s, tmI (ofF a).1 (ofF a).2 (ofF b).1 (ofF b).2 n = s := ⟨_, rfl⟩
    obtain ⟨⟨p, q⟩, hr⟩ : ∃ s, bkI a b n = s := ⟨_, rfl⟩
    rw [hs] at w1 w2 hbits ⊢
    rw [hr] at c1 c2 hbits ⊢
    simp only at w1 w2 c1 c2 hbits
    obtain ⟨hw, hst⟩ := tm_step (of_w2 ha) w1 w2 (show n < 128 by omega)
    have hsh := sh_ok c2
    have hjo := jn_ok (b := q) c1
    rw [of_bit ha (show 127 - n < 128 by omega)] at hst
    have hB := bk_bit ha (show n < 128 by omega)
    refine ⟨?_, hw, fun i hi => ?_⟩
    · unfold bkS
      simp only
      refine ⟨?_, hsh.1⟩
      split
      · exact hjo
      · exact c1
    · rw [(hst i hi).1, (hst i hi).2]
      unfold bkS
      simp only
      refine ⟨?_, ?_⟩
      · rw [hB, (hbits i hi).1, (hbits i hi).2]
        cases Bb a (127 - n)
        · rw [if_neg (by decide)]; simp
        · rw [if_pos (by decide), jn_bit c1 c2 hi]; simp
      · rw [hsh.2 i hi]
        exact shB_congr (fun j hj => (hbits j hj).2) hi
theorem bk_ok {a b : List Int} (ha : B16 a) (hb : B16 b) : B16 (bkF a b) := (bk_agree ha hb 128 (by decide)).1.1
theorem bk_of {a b : List Int} (ha : B16 a) (hb : B16 b) : ofF (bkF a b) = timF (ofF a).1 (ofF a).2 (ofF b).1 (ofF b).2 := by
  obtain ⟨⟨c1, -⟩, ⟨w1, -⟩, hbits⟩ := bk_agree ha hb 128 (by decide)
  refine w2_ext (of_w2 (bk_ok ha hb)) w1 fun i hi => ?_
  rw [of_bit (bk_ok ha hb) hi]
  exact ((hbits i hi).1).symm
theorem jn_of {a b : List Int} (ha : B16 a) (hb : B16 b) : ofF (jn a b 16) = (bXor .u64 (ofF a).1 (ofF b).1, bXor .u64 (ofF a).2 (ofF b).2) := by
  have wa := of_w2 ha
  have wb := of_w2 hb
  have x1 := wd_xor wa.1 wb.1
  have x2 := wd_xor wa.2 wb.2
  have hj := jn_ok (b := b) ha
  refine w2_ext (of_w2 hj) ⟨x1.1, x2.1⟩ fun i hi => ?_
  rw [of_bit hj hi, jn_bit ha hb hi, ← of_bit ha hi, ← of_bit hb hi]
  by_cases h64 : i < 64
  · simp only [Hb_lo h64]; rw [x2.2]
  · simp only [Hb_hi h64]; rw [x1.2]
end Am
set_option linter.unusedSimpArgs false
set_option linter.unusedVariables false
set_option maxRecDepth 20000
namespace Am
open Go.Proofs
/-! ### The reference's hash is the program's -/
theorem blk_get {x y : Int} : ∀ n, n ≤ 8 → ∀ j, j < 16 → getI (itr (blkS x y) z16 n) j = if j < n then Go.IntKind.u8.wrap (iShr .u64 x ((56 - 8 * j : Nat) : Int)) else if 8 ≤ j ∧ j < 8 + n then Go.IntKind.u8.wrap (iShr .u64 y ((56 - 8 * (j - 8) : Nat) : Int)) else 0
  | 0, _, j, hj => by
    rw [if_neg (by omega), if_neg (by omega)]
    simp only [itr, getI, z16, List.getD_eq_getElem?_getD, List.getElem?_replicate]
    split <;> rfl
  | n + 1, hn, j, hj => by
    have ih := blk_get (x := x) (y := y) n (by omega) j hj
    have hl := (blkS_ok (x := x) (y := y) n).1
    rw [itr_s, blkS, getI_st, getI_st, ih, List.length_set, hl]
    by_cases h1 : 8 + n = j
    · rw [if_pos ⟨h1, hj⟩, if_neg (by omega), if_pos ⟨by omega, by omega⟩, show j - 8 = n by omega]
    · rw [if_neg (fun h => h1 h.1)]
      by_cases h2 : n = j
      · rw [if_pos ⟨h2, hj⟩, if_pos (by omega), h2]
      · rw [if_neg (fun h => h2 h.1)]
        by_cases h3 : j < n
        · rw [if_pos h3, if_pos (by omega)]
        · rw [if_neg h3, if_neg (show ¬ j < n + 1 by omega)]
          by_cases h4 : 8 ≤ j ∧ j < 8 + n
          · rw [if_pos h4, if_pos (show 8 ≤ j ∧ j < 8 + (n + 1) by omega)]
          · rw [if_neg h4, if_neg (show ¬ (8 ≤ j ∧ j < 8 + (n + 1)) by omega)]
theorem w8_nb {x : Int} (hx : Wd x) {r : Nat} (hr : r < 8) : nb (Go.IntKind.u8.wrap x) r = nb x r := by
  obtain ⟨n, rfl, hn⟩ := hx.nat
  have e : Go.IntKind.u8.wrap (n : Int) = ((n % 2 ^ 8 : Nat) : Int) := by rw [wrap_u8]; omega
  rw [e, nb_nat, nb_nat, Nat.testBit_mod_two_pow]
  simp [hr]
theorem blk_bit {x y : Int} (hx : Wd x) (hy : Wd y) {i : Nat} (hi : i < 128) : Bb (blkF x y) i = Hb (x, y) i := by
  unfold Bb blkF
  rw [blk_get 8 (by decide) _ (by omega)]
  by_cases h64 : i < 64
  · rw [Hb_lo h64, if_neg (by omega), if_pos ⟨by omega, by omega⟩]
    have h := wd_shr hy (s := 56 - 8 * (15 - i / 8 - 8)) (by omega)
    rw [w8_nb h.1 (by omega), h.2, show i % 8 + (56 - 8 * (15 - i / 8 - 8)) = i by omega]
  · rw [Hb_hi h64, if_pos (by omega)]
    have h := wd_shr hx (s := 56 - 8 * (15 - i / 8)) (by omega)
    rw [w8_nb h.1 (by omega), h.2, show i % 8 + (56 - 8 * (15 - i / 8)) = i - 64 by omega]
theorem blk_of {b : List Int} (hb : B16 b) : blkF (ofF b).1 (ofF b).2 = b := by
  have w := of_w2 hb
  refine bb_ext (blkF_ok _ _) hb fun i hi => ?_
  rw [blk_bit w.1 w.2 hi, ← of_bit hb hi]
theorem of_blk {x y : Int} (hx : Wd x) (hy : Wd y) : ofF (blkF x y) = (x, y) := by
  refine w2_ext (of_w2 (blkF_ok _ _)) ⟨hx, hy⟩ fun i hi => ?_
  rw [of_bit (blkF_ok _ _) hi, blk_bit hx hy hi]
theorem xx_zero {x : Int} (hx : Bt x) : bXor .u8 x 0 = x := by
  obtain ⟨n, rfl, hn⟩ := hx.nat
  have := xn hn (show 0 < 256 by decide)
  rw [Nat.xor_zero] at this
  exact this
theorem chk_get {xs : List Int} {m j : Nat} (hj : j < 16) : getI (chk xs m) j = if 16 * m + j < xs.length then getI xs (16 * m + j) else 0 := by
  have hs : (sub xs (16 * m) 16).length ≤ 16 := by simp [sub]; omega
  have hsl : (sub xs (16 * m) 16).length = min 16 (xs.length - 16 * m) := by simp [sub]
  have e : chk xs m = sub xs (16 * m) 16 ++ z16.drop (sub xs (16 * m) 16).length := by simp [chk, spl]
  rw [e]
  simp only [getI, List.getD_eq_getElem?_getD]
  by_cases h : 16 * m + j < xs.length
  · rw [if_pos h, List.getElem?_append_left (by omega)]
    simp [sub, List.getElem?_take_of_lt hj, List.getElem?_drop]
  · rw [if_neg h, List.getElem?_append_right (by omega)]
    simp only [z16, List.getElem?_drop, List.getElem?_replicate]
    split <;> rfl
theorem xk_get {b y : List Int} {m : Nat} (hy : y.length = 16) : ∀ n, n ≤ 16 → ∀ j, getI (itr (xkS b m) y n) j = if j < n then bXor .u8 (getI y j) (getI b (16 * m + j)) else getI y j
  | 0, _, j => by rw [if_neg (by omega)]; rfl
  | n + 1, hn, j => by
    have hl := xkS_len (b := b) (m := m) hy n
    rw [itr_s, xkS, getI_st, xk_get hy n (by omega) j, xk_get hy n (by omega) n, if_neg (Nat.lt_irrefl n), hl]
    by_cases h : n = j
    · subst h
      rw [if_pos ⟨rfl, by omega⟩, if_pos (by omega)]
    · rw [if_neg (fun h2 => h h2.1)]
      by_cases h3 : j < n
      · rw [if_pos h3, if_pos (by omega)]
      · rw [if_neg h3, if_neg (by omega)]
theorem xk_jn {b y : List Int} (hy : B16 y) (hb : Dig 256 b) (m : Nat) : itr (xkS b m) y (min (16 * (m + 1)) b.length - 16 * m) = jn y (chk b m) 16 := by
  refine getI_ext (by rw [xkS_len hy.1, jn_len, hy.1]) fun j hj => ?_
  rw [xkS_len hy.1] at hj
  rw [xk_get hy.1 _ (by omega), jn_get hy.1, if_pos hj, chk_get hj]
  by_cases h : 16 * m + j < b.length
  · rw [if_pos (by omega), if_pos h]
  · rw [if_neg (by omega), if_neg h, xx_zero (hy.2.all (by decide) j)]
theorem hr_step {h b y : List Int} (hh : B16 h) (hy : B16 y) (hb : Dig 256 b) : ∀ n, B16 (itr (hrS h b) y n) ∧ ofF (itr (hrS h b) y n) = itr (hstS (ofF h) b) (ofF y) n
  | 0 => ⟨hy, rfl⟩
  | n + 1 => by
    obtain ⟨h1, h2⟩ := hr_step hh hy hb n
    rw [itr_s, itr_s, hrS, xk_jn h1 hb]
    have hj := jn_ok (b := chk b n) h1
    refine ⟨bk_ok hj hh, ?_⟩
    rw [bk_of hj hh, jn_of h1 (chk_ok hb n), h2]
    rfl
theorem hr_of {h b y : List Int} (hh : B16 h) (hy : B16 y) (hb : Dig 256 b) : B16 (hrF y h b) ∧ ofF (hrF y h b) = hshB (ofF h) (ofF y) b := hr_step hh hy hb (nbl b)
theorem bitl_wd (xs : List Int) : Wd (bitl xs) := by unfold bitl; rw [wrap_u64]; exact ⟨by omega, by omega⟩
theorem of_z16 : ofF z16 = (0, 0) := by decide +kernel
theorem itr_1 {α : Type} {f : α → Nat → α} {x : α} : itr f x 1 = f x 0 := rfl
theorem hsI_2 {h : Int × Int} {a b : List Int} : hsI h a b 2 = (hshB h (hshB h (0, 0) a) b, (bitl a, bitl b)) := by
  show hsS h a b (hsS h a b ((0, 0), (0, 0)) 0) 1 = _
  simp only [hsS, pP, if_true, show ¬ (1 : Nat) = 0 by decide, if_false]
theorem hr_hash {H a S : List Int} (hH : B16 H) (ha : Dig 256 a) (hS : Dig 256 S) : hrF (hrF (hrF z16 H a) H S) H (blkF (bitl a) (bitl S)) = hashF H a S := by
  obtain ⟨b1, o1⟩ := hr_of hH z16_ok ha
  obtain ⟨b2, o2⟩ := hr_of hH b1 hS
  have hl := blkF_ok (bitl a) (bitl S)
  obtain ⟨b3, o3⟩ := hr_of hH b2 hl.2
  rw [← blk_of b3, o3, o2, o1, of_z16]
  have e2 : chk (blkF (bitl a) (bitl S)) 0 = blkF (bitl a) (bitl S) := by
    refine getI_ext (by rw [(chk_ok hl.2 0).1, hl.1]) fun j hj => ?_
    rw [(chk_ok hl.2 0).1] at hj
    rw [chk_get hj, if_pos (by rw [hl.1]; omega)]
    simp
  rw [hashF, hsI_2, fin2]
  obtain ⟨h, hh⟩ : ∃ h, ofF H = h := ⟨_, rfl⟩
  rw [hh]
  obtain ⟨y, hy⟩ : ∃ y, hshB h (hshB h (0, 0) a) S = y := ⟨_, rfl⟩
  rw [hy, hshB, nbl, hl.1, show (16 + 15) / 16 = 1 from rfl, itr_1, hstS, e2, of_blk (bitl_wd a) (bitl_wd S)]
theorem ctr_get {c : List Int} {n : Int} (hc : B12 c) : ∀ m, m ≤ 4 → ∀ j, j < 16 → getI (itr (ctrS n) (c ++ [0, 0, 0, 0]) m) j = if 12 ≤ j ∧ j < 12 + m then Go.IntKind.u8.wrap (iShr .u32 n ((24 - 8 * (j - 12) : Nat) : Int)) else getI (c ++ [0, 0, 0, 0]) j
  | 0, _, j, hj => by rw [if_neg (by omega)]; rfl
  | m + 1, hm, j, hj => by
    have hl := (ctrS_ok (n := n) hc m).1
    rw [itr_s, ctrS, getI_st, ctr_get hc m (by omega) j hj, hl]
    by_cases h : 12 + m = j
    · rw [if_pos ⟨h, hj⟩, if_pos (by omega), show j - 12 = m by omega]
    · rw [if_neg (fun h2 => h h2.1)]
      by_cases h3 : 12 ≤ j ∧ j < 12 + m
      · rw [if_pos h3, if_pos (by omega)]
      · rw [if_neg h3, if_neg (by omega)]
theorem cp_get {c : List Int} (hc : B12 c) : ∀ m, m ≤ 12 → ∀ j, j < 16 → getI (itr (cpS c) z16 m) j = if j < m then getI c j else 0
  | 0, _, j, hj => by
    rw [if_neg (by omega)]
    simp only [itr, getI, z16, List.getD_eq_getElem?_getD, List.getElem?_replicate]
    split <;> rfl
  | m + 1, hm, j, hj => by
    have hl := (cpS_ok hc m).1
    rw [itr_s, cpS, getI_st, cp_get hc m (by omega) j hj, hl]
    by_cases h : m = j
    · rw [if_pos ⟨h, hj⟩, if_pos (by omega), h]
    · rw [if_neg (fun h2 => h h2.1)]
      by_cases h3 : j < m
      · rw [if_pos h3, if_pos (by omega)]
      · rw [if_neg h3, if_neg (by omega)]
theorem shr32 {m s : Nat} (hm : m < 65536) (hs : s < 32) : iShr .u32 (m : Int) (s : Int) = ((m / 2 ^ s : Nat) : Int) := by
  unfold iShr
  rw [Int.toNat_natCast, show Go.IntKind.u32.bits = 32 from rfl, Nat.min_eq_left (by omega), fdiv_nat]
theorem cr_ctr {c : List Int} {m : Nat} (hc : B12 c) (hm : m < 65536) : crF c m = ctrF c (m : Int) := by
  refine getI_ext (by rw [(crF_ok hc m).1, (ctr_ok hc).1]) fun j hj => ?_
  rw [(crF_ok hc m).1] at hj
  have hl := (cpS_ok hc 12).1
  unfold crF ctrF
  rw [ctr_get hc 4 (by decide) j hj, getI_st, getI_st, List.length_set, hl, cp_get hc 12 (by decide) j hj]
  rcases (by omega : j < 12 ∨ j = 12 ∨ j = 13 ∨ j = 14 ∨ j = 15) with h | rfl | rfl | rfl | rfl
  · rw [if_neg (by omega), if_neg (by omega), if_pos h, if_neg (by omega), getI_app (by rw [hc.1]; exact h)]
  · rw [if_neg (by omega), if_neg (by omega), if_neg (by omega), if_pos (by omega), shr32 hm (by omega), wrap_u8]
    have : m / 2 ^ (24 - 8 * (12 - 12)) = 0 := Nat.div_eq_of_lt (by omega)
    rw [this]; rfl
  · rw [if_neg (by omega), if_neg (by omega), if_neg (by omega), if_pos (by omega), shr32 hm (by omega), wrap_u8]
    have : m / 2 ^ (24 - 8 * (13 - 12)) = 0 := Nat.div_eq_of_lt (by omega)
    rw [this]; rfl
  · rw [if_neg (by omega), if_pos ⟨rfl, by omega⟩, if_pos (by omega), shr32 hm (by omega)]
  · rw [if_pos ⟨rfl, by omega⟩, if_pos (by omega), shr32 hm (by omega), wrap_u8, wrap_u8]
    have : m / 2 ^ (24 - 8 * (15 - 12)) = m := by simp
    rw [this]
    omega
theorem take_snoc {l : List Int} {j : Nat} (h : j < l.length) : l.take (j + 1) = l.take j ++ [getI l j] := by
  rw [List.take_add_one]
  simp [getI, List.getD_eq_getElem?_getD, h]
end Am
