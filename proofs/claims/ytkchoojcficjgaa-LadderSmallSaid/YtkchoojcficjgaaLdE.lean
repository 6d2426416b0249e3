/-
Working texts: contracts of functions, and the numbers behind them.
-/
import Derived.Test.YtkchoojcficjgaaLdA
set_option linter.unusedSimpArgs false
set_option linter.unusedVariables false
set_option linter.unusedSectionVars false
set_option linter.unusedSimpArgs false
set_option linter.unusedVariables false
set_option maxRecDepth 20000
namespace Am
open Go.Proofs
/-! ### Places of small orders -/
theorem fm1 (a b : Int) : a % Pp * b % Pp = a * b % Pp := by rw [Int.mul_emod, Int.emod_emod_of_dvd _ (Int.dvd_refl _), ← Int.mul_emod]
theorem fm2 (a b : Int) : a * (b % Pp) % Pp = a * b % Pp := by rw [Int.mul_emod, Int.emod_emod_of_dvd _ (Int.dvd_refl _), ← Int.mul_emod]
theorem fa1 (a b : Int) : (a % Pp + b) % Pp = (a + b) % Pp := Int.emod_add_emod ..
theorem fa2 (a b : Int) : (a + b % Pp) % Pp = (a + b) % Pp := Int.add_emod_emod ..
theorem fs1 (a b : Int) : (a % Pp - b) % Pp = (a - b) % Pp := Int.emod_sub_emod ..
theorem fs2 (a b : Int) : (a - b % Pp) % Pp = (a - b) % Pp := Int.sub_emod_emod ..
theorem z_of {p : Int} (h : p = 0) : p % Pp = 0 := by rw [h]; rfl
theorem dblO {x : Int} {S : Q4} (h : S.b = 0) : (lst x S).b = 0 := by
  simp only [lst, h, fm1, fm2, fa1, fa2, fs1, fs2]
  exact z_of (by grind)
theorem dblH {x : Int} {S : Q4} (h : S.a = 0) : (lst x S).b = 0 := by
  simp only [lst, h, fm1, fm2, fa1, fa2, fs1, fs2]
  exact z_of (by grind)
theorem dblE {x e : Int} (he : e = 1 ∨ e = -1) {S : Q4} (h : S.b = e * S.a % Pp) : (lst x S).a = 0 := by
  simp only [lst, h, fm1, fm2, fa1, fa2, fs1, fs2]
  rcases he with rfl | rfl <;> exact z_of (by grind)
theorem addE1 {x e : Int} (he : e = 1 ∨ e = -1) (hx : x = e % Pp) {S : Q4} (h : S.b = 0) (h2 : S.d = e * S.c % Pp) : (lst x S).d = e * (lst x S).c % Pp := by
  simp only [lst, h, h2, hx, fm1, fm2, fa1, fa2, fs1, fs2]
  rcases he with rfl | rfl <;> (congr 1; grind)
theorem addE2 {x e : Int} (he : e = 1 ∨ e = -1) (hx : x = e % Pp) {S : Q4} (h : S.b = e * S.a % Pp) (h2 : S.c = 0) : (lst x S).d = e * (lst x S).c % Pp := by
  simp only [lst, h, h2, hx, fm1, fm2, fa1, fa2, fs1, fs2]
  rcases he with rfl | rfl <;> (congr 1; grind)
theorem addE3 {x e : Int} (he : e = 1 ∨ e = -1) (hx : x = e % Pp) {S : Q4} (h : S.a = 0) (h2 : S.d = e * S.c % Pp) : (lst x S).d = e * (lst x S).c % Pp := by
  simp only [lst, h, h2, hx, fm1, fm2, fa1, fa2, fs1, fs2]
  rcases he with rfl | rfl <;> (congr 1; grind)
theorem addE4 {x e : Int} (he : e = 1 ∨ e = -1) (hx : x = e % Pp) {S : Q4} (h : S.b = e * S.a % Pp) (h2 : S.d = 0) : (lst x S).d = e * (lst x S).c % Pp := by
  simp only [lst, h, h2, hx, fm1, fm2, fa1, fa2, fs1, fs2]
  rcases he with rfl | rfl <;> (congr 1; grind)
/-- Which multiple of the place the two pairs are, modulo 4. -/
def Jr (e : Int) (r : Nat) (S : Q4) : Prop :=
  (r = 0 → S.b = 0 ∧ S.d = e * S.c % Pp) ∧ (r = 1 → S.b = e * S.a % Pp ∧ S.c = 0) ∧ (r = 2 → S.a = 0 ∧ S.d = e * S.c % Pp) ∧ (r = 3 → S.b = e * S.a % Pp ∧ S.d = 0)
theorem Jr_step {x e : Int} (he : e = 1 ∨ e = -1) (hx : x = e % Pp) {S : Q4} {r : Nat} (hr : r < 4) (h : Jr e r S) :
    Jr e (2 * r % 4) (lst x S) ∧ Jr e ((2 * r + 1) % 4) (lst x S.sw).sw := by
  obtain ⟨h0, h1, h2, h3⟩ := h
  rcases (by omega : r = 0 ∨ r = 1 ∨ r = 2 ∨ r = 3) with rfl | rfl | rfl | rfl
  · obtain ⟨p, q⟩ := h0 rfl
    refine ⟨⟨fun _ => ⟨dblO p, addE1 he hx p q⟩, ?_, ?_, ?_⟩, ⟨?_, fun _ => ⟨addE4 he hx (S := S.sw) q p, dblE (x := x) he (S := S.sw) q⟩, ?_, ?_⟩⟩ <;> (intro k; omega)
  · obtain ⟨p, q⟩ := h1 rfl
    refine ⟨⟨?_, ?_, fun _ => ⟨dblE he p, addE2 he hx p q⟩, ?_⟩, ⟨?_, ?_, ?_, fun _ => ⟨addE3 he hx (S := S.sw) q p, dblH (x := x) (S := S.sw) q⟩⟩⟩ <;> (intro k; omega)
  · obtain ⟨p, q⟩ := h2 rfl
    refine ⟨⟨fun _ => ⟨dblH p, addE3 he hx p q⟩, ?_, ?_, ?_⟩, ⟨?_, fun _ => ⟨addE2 he hx (S := S.sw) q p, dblE (x := x) he (S := S.sw) q⟩, ?_, ?_⟩⟩ <;> (intro k; omega)
  · obtain ⟨p, q⟩ := h3 rfl
    refine ⟨⟨?_, ?_, fun _ => ⟨dblE he p, addE4 he hx p q⟩, ?_⟩, ⟨?_, ?_, ?_, fun _ => ⟨addE1 he hx (S := S.sw) q p, dblO (x := x) (S := S.sw) q⟩⟩⟩ <;> (intro k; omega)
theorem Jr_lad {x e : Int} (he : e = 1 ∨ e = -1) (hx : x = e % Pp) {K : Nat} : ∀ (n : Nat) {S : Q4}, Jr e (K / 2 ^ n % 4) S → Jr e (K % 4) (lad x (K : Int) n S)
  | 0, S, h => by simpa [lad] using h
  | n + 1, S, h => by
    rw [lad]
    refine Jr_lad he hx n ?_
    have e2 : K / 2 ^ n = 2 * (K / 2 ^ (n + 1)) + K / 2 ^ n % 2 := by
      have : K / 2 ^ (n + 1) = K / 2 ^ n / 2 := by rw [Nat.pow_succ, Nat.div_div_eq_div_mul]
      rw [this]; omega
    have hb : ((K : Int) / 2 ^ n % 2 = 1) ↔ K / 2 ^ n % 2 = 1 := by
      have : (K : Int) / 2 ^ n % 2 = ((K / 2 ^ n % 2 : Nat) : Int) := by
        rw [Int.natCast_emod, Int.natCast_ediv, Int.natCast_pow]; rfl
      rw [this]; omega
    have hs := Jr_step he hx (Nat.mod_lt _ (by decide)) h
    unfold rst
    by_cases h1 : K / 2 ^ n % 2 = 1
    · rw [if_pos (hb.2 h1)]
      have e3 : K / 2 ^ n % 4 = (2 * (K / 2 ^ (n + 1) % 4) + 1) % 4 := by omega
      rw [e3]; exact hs.2
    · rw [if_neg (fun q => h1 (hb.1 q))]
      have e3 : K / 2 ^ n % 4 = 2 * (K / 2 ^ (n + 1) % 4) % 4 := by omega
      rw [e3]; exact hs.1
theorem J0_step {S : Q4} (h : S.b = 0) (h2 : S.d = 0) : ((lst 0 S).b = 0 ∧ (lst 0 S).d = 0) ∧ ((lst 0 S.sw).sw.b = 0 ∧ (lst 0 S.sw).sw.d = 0) := by
  have hd : ∀ S, (lst 0 S).d = 0 := fun S => by simp only [lst, Int.zero_mul]; rfl
  exact ⟨⟨dblO h, hd S⟩, ⟨hd S.sw, dblO (x := 0) (S := S.sw) h2⟩⟩
theorem J0_lad {K : Int} : ∀ (n : Nat) {S : Q4}, S.b = 0 → S.d = 0 → (lad 0 K n S).b = 0
  | 0, S, h, _ => h
  | n + 1, S, h, h2 => by
    rw [lad]
    have hs := J0_step h h2
    unfold rst; split
    · exact J0_lad n hs.2.1 hs.2.2
    · exact J0_lad n hs.1.1 hs.1.2
theorem ckl_val {k : List Int} (h : Key k) : ∃ K : Nat, val 256 (ckl k) = (K : Int) ∧ K % 8 = 0 ∧ K < 2 ^ 255 := by
  have hc := ckl_key h
  have hb := val_bound (by decide : (0 : Int) < 256) hc.2
  obtain ⟨K, hK⟩ := Int.eq_ofNat_of_zero_le hb.1
  have e0 : getI (ckl k) 0 = getI k 0 - getI k 0 % 8 := by rw [ckl, getI_set _ _ _ _ (by simp [h.1]), if_neg (by decide), getI_set _ _ _ _ (by rw [h.1]; decide), if_pos rfl]
  have e31 : getI (ckl k) 31 = getI k 31 % 64 + 64 := by rw [ckl, getI_set _ _ _ _ (by simp [h.1]), if_pos rfl]
  have d0 := digit_at (by decide) hc.2 0
  have d31 := digit_at (by decide) hc.2 31
  rw [e0, hK, Int.pow_zero, Int.ediv_one] at d0
  rw [e31, hK, show (256 : Int) ^ 31 = 452312848583266388373324160190187140051835877600158453279131187530910662656 by decide] at d31
  have hlt : val 256 (ckl k) < 115792089237316195423570985008687907853269984665640564039457584007913129639936 := by
    have := hb.2; rw [hc.1] at this; exact Int.lt_of_lt_of_le this (by decide)
  rw [hK] at hlt
  refine ⟨K, hK, by omega, ?_⟩
  have : (2 : Nat) ^ 255 = 57896044618658097711785492504343953926634992332820282019728792003956564819968 := by decide
  omega
theorem pw0 : pw 0 (Pp - 2) = 0 := by decide +kernel
theorem ladR0 {S : Q4} (h : S.b = 0) : ladR S = 0 := by
  unfold ladR; rw [h, pw0, Int.mul_zero]; rfl
theorem small_shv {k p : List Int} (hk : Key k) (hp : kv p = 0 ∨ kv p = 1 ∨ kv p = Pp - 1) : lmul k p = List.replicate 32 0 := by
  obtain ⟨K, hK, h8, hKlt⟩ := ckl_val hk
  have hz : shv k p = 0 := by
    unfold shv
    refine ladR0 ?_
    rw [hK]
    rcases hp with h | h | h
    · rw [h]
      show (lad 0 (K : Int) (254 + 1) ⟨1, 0, 0, 1⟩).b = 0
      rw [lad]
      have b0 : (lst 0 ⟨1, 0, 0, 1⟩).b = 0 ∧ (lst 0 ⟨1, 0, 0, 1⟩).d = 0 := by decide
      have b1 : (lst 0 (Q4.sw ⟨1, 0, 0, 1⟩)).sw.b = 0 ∧ (lst 0 (Q4.sw ⟨1, 0, 0, 1⟩)).sw.d = 0 := by decide
      unfold rst; split
      · exact J0_lad 254 b1.1 b1.2
      · exact J0_lad 254 b0.1 b0.2
    · rw [h]
      have hJ := Jr_lad (x := 1) (e := 1) (.inl rfl) (by decide) (K := K) 255 (S := ⟨1, 0, 1, 1⟩) (by
        rw [Nat.div_eq_of_lt hKlt]
        exact ⟨fun _ => ⟨rfl, by decide⟩, fun h => absurd h (by decide), fun h => absurd h (by decide), fun h => absurd h (by decide)⟩)
      exact (hJ.1 (by omega)).1
    · rw [h]
      have hJ := Jr_lad (x := Pp - 1) (e := -1) (.inr rfl) (by decide) (K := K) 255 (S := ⟨1, 0, Pp - 1, 1⟩) (by
        rw [Nat.div_eq_of_lt hKlt]
        exact ⟨fun _ => ⟨rfl, by decide⟩, fun h => absurd h (by decide), fun h => absurd h (by decide), fun h => absurd h (by decide)⟩)
      exact (hJ.1 (by omega)).1
  unfold lmul
  rw [hz, dig_zero]
def preKB (ds : List D) : Prop := ∃ (k : List Int) (b : Int), ds = [.v (.ints .u8 k), .v (.int .u8 b)] ∧ Key k ∧ (0 ≤ b ∧ b < 256)
theorem kv_dig {n : Int} (h0 : 0 ≤ n) (h1 : n < Q255) : kv (dig 256 32 n) = n % Pp := by
  unfold kv
  rw [val_dig (by decide) h0 (Int.lt_trans h1 (by decide)), Int.emod_eq_of_lt h0 h1]
theorem lawLadderSmall : ∀ ds, preKB ds → Does Try.prog gl 14 (injV ds 4) (gl ++ injB true ds) (out (4 + (injB true ds).length) (FTrue ds)) := by
  refine fdoesA (l := [(48, s48), (37, s37), (55, s55), (54, s54), (30, s30), (50, s50)]) mixed gl_plain rfl Try.func14 comp14 compR14 nt14 (by simp only [List.mem_cons, List.not_mem_nil, or_false, forall_eq_or_imp, forall_eq]; exact ⟨ok48, ok37, ok55, ok54, ok30, ok50⟩) fun ds ⟨k, b, hd, hk, hb⟩ hA => ?_
  subst hd
  have hkl := hk.1
  have sk : sub k 0 32 = k := qdc hkl
  have pA : pre48 [] := rfl
  have pP : pre55 [] := rfl
  have t2 : b.tmod 2 = b % 2 := Int.tmod_eq_emod_of_nonneg hb.1
  have t4 : b.tmod 4 = b % 4 := Int.tmod_eq_emod_of_nonneg hb.1
  have w2 : Go.IntKind.u32.wrap (b % 2) = b % 2 := by rw [wrap_u32]; omega
  have u2 : pre37 [.v (.int .u32 (b % 2))] := ⟨_, rfl, by omega, by omega⟩
  have u1 : pre37 [.v (.int .u32 1)] := ⟨1, rfl, by decide, by decide⟩
  have sP : sub Ps 0 16 = Ps := qdc Ps_len
  have pm : pre54 [.s .u32 Ps, .s .u32 (dig 65536 2 1)] := ⟨_, _, rfl, Ps_dig, dig_dig (by decide) _ _, by rw [Ps_len]; decide, by rw [qaj]; decide⟩
  have sPm : sub Pm 0 16 = Pm := qdc Pm_len
  have k1 : pre30 [.s .u32 (dig 65536 2 (b % 2))] := ⟨_, rfl, dig_dig (by decide) _ _⟩
  have k2 : pre30 [.s .u32 Pm] := ⟨_, rfl, Pm_dig⟩
  have k3 : pre30 [.s .u32 Ps] := ⟨_, rfl, Ps_dig⟩
  have v1 : val 65536 (dig 65536 2 (b % 2)) = b % 2 := val_dig (by decide) (by omega) (by simp only [Int.reducePow]; omega)
  have hq1 := hk.kk (key_dig32 (b % 2))
  have hq2 := hk.kk (key_dig32 (Pp - 1))
  have hq3 := hk.kk (key_dig32 Pp)
  have z1 : ¬ b % 4 = 2 → ¬ b % 4 = 3 → lmul k (dig 256 32 (b % 2)) = [0, 0, 0, 0, 0, 0, 0, 0, 0, 0, 0, 0, 0, 0, 0, 0, 0, 0, 0, 0, 0, 0, 0, 0, 0, 0, 0, 0, 0, 0, 0, 0] := fun _ _ => small_shv hk (by
    rw [kv_dig (by omega) (by unfold Q255; omega)]
    rcases (by omega : b % 2 = 0 ∨ b % 2 = 1) with h | h <;> rw [h]
    · exact .inl (by decide)
    · exact .inr (.inl (by decide)))
  have z2 : lmul k (dig 256 32 (Pp - 1)) = [0, 0, 0, 0, 0, 0, 0, 0, 0, 0, 0, 0, 0, 0, 0, 0, 0, 0, 0, 0, 0, 0, 0, 0, 0, 0, 0, 0, 0, 0, 0, 0] := small_shv hk (by
    rw [kv_dig (by decide) (by decide)]; exact .inr (.inr (by decide)))
  have z3 : lmul k (dig 256 32 Pp) = [0, 0, 0, 0, 0, 0, 0, 0, 0, 0, 0, 0, 0, 0, 0, 0, 0, 0, 0, 0, 0, 0, 0, 0, 0, 0, 0, 0, 0, 0, 0, 0] := small_shv hk (by
    rw [kv_dig (by decide) (by decide)]; exact .inl (by decide))
  have sz : spl [0, 0, 0, 0, 0, 0, 0, 0, 0, 0, 0, 0, 0, 0, 0, 0, 0, 0, 0, 0, 0, 0, 0, 0, 0, 0, 0, 0, 0, 0, 0, 0] 0 [0, 0, 0, 0, 0, 0, 0, 0, 0, 0, 0, 0, 0, 0, 0, 0, 0, 0, 0, 0, 0, 0, 0, 0, 0, 0, 0, 0, 0, 0, 0, 0] = [0, 0, 0, 0, 0, 0, 0, 0, 0, 0, 0, 0, 0, 0, 0, 0, 0, 0, 0, 0, 0, 0, 0, 0, 0, 0, 0, 0, 0, 0, 0, 0] := rfl
  have s0 : sub [0, 0, 0, 0, 0, 0, 0, 0, 0, 0, 0, 0, 0, 0, 0, 0, 0, 0, 0, 0, 0, 0, 0, 0, 0, 0, 0, 0, 0, 0, 0, 0] 0 32 = [0, 0, 0, 0, 0, 0, 0, 0, 0, 0, 0, 0, 0, 0, 0, 0, 0, 0, 0, 0, 0, 0, 0, 0, 0, 0, 0, 0, 0, 0, 0, 0] := rfl
  have n32 : ¬ (3 : Int) = 2 := by decide
  simp only [s48, s37, s55, s54, s30, s50]
  by_cases h2 : b % 4 = 2
  · simp only [ir14,rs14,gl,FTrue,hkl,sk,pA,pP,t2,t4,w2,u2,u1,h2,sP,Ps_len,pm,Pm_eq,sPm,Pm_len,k2,Pm_val,hq2,z2,sz,s0,eq_self,s48,s37,s55,s54,s30,s50,F48,F37,F55,F54,F30,F50,qdc,qc8,qaj,List.length_cons,List.length_nil,Nat.reduceAdd,Nat.le_refl,Nat.reduceLeDiff,Nat.reduceLT,true_and,and_true,↓qax,↓qay,↓qa0,↓qaz,↓qcu,↓qbj,↓qa1,↓qcm,↓qb3,↓qcj,↓qcb,↓qcf,↓qcg,↓qb4,↓qce,↓qck,↓qb5,↓qch,↓qci,↓qb6,↓qcc,↓qca,↓qb9,↓qb8,↓qb7,↓qa5,↓qbc,↓qa6,↓qbd,↓qa7,↓qbe,↓qa8,↓qbf,↓qa9,↓qbg,↓qba,↓qbh,↓qbb,↓qbi,↓qb2,↓qcl,↓qfe,↓qcp,↓qcq,↓qcr,↓qco,↓qcn,↓qbm,↓qbn,↓qb0,↓qbv,↓qbq,↓qbu,↓qbz,↓qbw,↓qby,↓qbx,↓qbr,↓qbp,↓qb1,↓qbs,↓qbt,↓qbo,↓qe1,↓qe0,↓qe5,↓qe7,↓qe6,↓qez,↓qey,↓qev,↓qew,↓qe4,↓qe3,↓qe2,qc7,↓qes,↓qet,↓qex,↓qc6,↓qc4,↓qc5,↓qe9,↓qfa,↓qfb,↓qe8,qaa,↓qeu,↓qeh,↓qei,↓qfd,↓qfc,↓qek,↓qdm,↓qdu,↓qeb,↓qec,↓qep,↓qeq,↓qdq,↓qdr,↓qdt,↓qds,↓qdz,↓qer,↓qdx,↓qel,↓qdp,↓qef,↓qem,↓qen,↓qeo,↓qd3,↓qd2,↓qd4,↓qd5,↓qd7,↓qd1,↓qd8,↓qea,↓qd9,↓qdn,↓qdo,↓qd0,↓qaw,↓qdy,↓qeg,↓qee,↓qdl,↓qej,↓qed,↓qd6,qav,List.drop_zero,Nat.sub_zero,qc0,qcv,qcw,qdj,qat,qas,qaf,List.map_cons,List.map_nil,List.zip_cons_cons,List.zip_nil_right,List.zip_nil_left,qau,evs,evp,mkB,repB,blen,qae,qad,qac,qab,qc3,qc2,qdi,qdk,qdg,qdh,qcz,qc1,qcx,qcy,↓qde,↓qdd,↓qdf,↓qah,↓qag,↓qai,↓retQ,res,resAll,resOne,kill,apartOk,exp,injV,injB,pur,purs,purR,pursR,List.set_cons_zero,List.set_cons_succ,List.length_cons,List.length_nil,List.cons_append,List.nil_append,List.append_nil,List.append_assoc,List.length_append,List.reduceReplicate,Nat.reduceAdd,Nat.reduceMul,Nat.reduceSub,Nat.reduceEqDiff,Nat.reduceLT,Nat.zero_add,Nat.add_zero,Nat.mul_one,Int.reduceToNat,Int.toNat_natCast,Int.cast_ofNat_Int,Int.reduceLE,Int.reduceLT,Int.reduceEq,reduceCtorEq,↓reduceIte,Bool.true_eq_false,Bool.false_eq_true,Bool.not_true,Bool.not_false,true_and,and_true,and_assoc,qaj,sub1,qda,qc9,qdb,List.length_replicate,Nat.le_refl,false_implies,true_implies,ne_eq,not_true_eq_false,not_false_eq_true,decide_true,decide_false,decide_eq_true_eq,decide_eq_false_iff_not,Bool.not_eq_true',Bool.not_eq_false']
    repeat (refine And.intro (by omega) ?_)
    simp only [out, outs, out1, pur, and_self]
  by_cases h3 : b % 4 = 3
  · simp only [ir14,rs14,gl,FTrue,hkl,sk,pA,pP,t2,t4,w2,u2,u1,h3,n32,sP,Ps_len,k3,val_Ps,hq3,z3,sz,s0,eq_self,s48,s37,s55,s54,s30,s50,F48,F37,F55,F54,F30,F50,qdc,qc8,qaj,List.length_cons,List.length_nil,Nat.reduceAdd,Nat.le_refl,Nat.reduceLeDiff,Nat.reduceLT,true_and,and_true,↓qax,↓qay,↓qa0,↓qaz,↓qcu,↓qbj,↓qa1,↓qcm,↓qb3,↓qcj,↓qcb,↓qcf,↓qcg,↓qb4,↓qce,↓qck,↓qb5,↓qch,↓qci,↓qb6,↓qcc,↓qca,↓qb9,↓qb8,↓qb7,↓qa5,↓qbc,↓qa6,↓qbd,↓qa7,↓qbe,↓qa8,↓qbf,↓qa9,↓qbg,↓qba,↓qbh,↓qbb,↓qbi,↓qb2,↓qcl,↓qfe,↓qcp,↓qcq,↓qcr,↓qco,↓qcn,↓qbm,↓qbn,↓qb0,↓qbv,↓qbq,↓qbu,↓qbz,↓qbw,↓qby,↓qbx,↓qbr,↓qbp,↓qb1,↓qbs,↓qbt,↓qbo,↓qe1,↓qe0,↓qe5,↓qe7,↓qe6,↓qez,↓qey,↓qev,↓qew,↓qe4,↓qe3,↓qe2,qc7,↓qes,↓qet,↓qex,↓qc6,↓qc4,↓qc5,↓qe9,↓qfa,↓qfb,↓qe8,qaa,↓qeu,↓qeh,↓qei,↓qfd,↓qfc,↓qek,↓qdm,↓qdu,↓qeb,↓qec,↓qep,↓qeq,↓qdq,↓qdr,↓qdt,↓qds,↓qdz,↓qer,↓qdx,↓qel,↓qdp,↓qef,↓qem,↓qen,↓qeo,↓qd3,↓qd2,↓qd4,↓qd5,↓qd7,↓qd1,↓qd8,↓qea,↓qd9,↓qdn,↓qdo,↓qd0,↓qaw,↓qdy,↓qeg,↓qee,↓qdl,↓qej,↓qed,↓qd6,qav,List.drop_zero,Nat.sub_zero,qc0,qcv,qcw,qdj,qat,qas,qaf,List.map_cons,List.map_nil,List.zip_cons_cons,List.zip_nil_right,List.zip_nil_left,qau,evs,evp,mkB,repB,blen,qae,qad,qac,qab,qc3,qc2,qdi,qdk,qdg,qdh,qcz,qc1,qcx,qcy,↓qde,↓qdd,↓qdf,↓qah,↓qag,↓qai,↓retQ,res,resAll,resOne,kill,apartOk,exp,injV,injB,pur,purs,purR,pursR,List.set_cons_zero,List.set_cons_succ,List.length_cons,List.length_nil,List.cons_append,List.nil_append,List.append_nil,List.append_assoc,List.length_append,List.reduceReplicate,Nat.reduceAdd,Nat.reduceMul,Nat.reduceSub,Nat.reduceEqDiff,Nat.reduceLT,Nat.zero_add,Nat.add_zero,Nat.mul_one,Int.reduceToNat,Int.toNat_natCast,Int.cast_ofNat_Int,Int.reduceLE,Int.reduceLT,Int.reduceEq,reduceCtorEq,↓reduceIte,Bool.true_eq_false,Bool.false_eq_true,Bool.not_true,Bool.not_false,true_and,and_true,and_assoc,qaj,sub1,qda,qc9,qdb,List.length_replicate,Nat.le_refl,false_implies,true_implies,ne_eq,not_true_eq_false,not_false_eq_true,decide_true,decide_false,decide_eq_true_eq,decide_eq_false_iff_not,Bool.not_eq_true',Bool.not_eq_false']
    repeat (refine And.intro (by omega) ?_)
    simp only [out, outs, out1, pur, and_self]
  have z1' := z1 h2 h3
  simp only [ir14,rs14,gl,FTrue,hkl,sk,pA,t2,t4,w2,u2,h2,h3,k1,v1,hq1,z1',sz,s0,eq_self,s48,s37,s55,s54,s30,s50,F48,F37,F55,F54,F30,F50,qdc,qc8,qaj,List.length_cons,List.length_nil,Nat.reduceAdd,Nat.le_refl,Nat.reduceLeDiff,Nat.reduceLT,true_and,and_true,↓qax,↓qay,↓qa0,↓qaz,↓qcu,↓qbj,↓qa1,↓qcm,↓qb3,↓qcj,↓qcb,↓qcf,↓qcg,↓qb4,↓qce,↓qck,↓qb5,↓qch,↓qci,↓qb6,↓qcc,↓qca,↓qb9,↓qb8,↓qb7,↓qa5,↓qbc,↓qa6,↓qbd,↓qa7,↓qbe,↓qa8,↓qbf,↓qa9,↓qbg,↓qba,↓qbh,↓qbb,↓qbi,↓qb2,↓qcl,↓qfe,↓qcp,↓qcq,↓qcr,↓qco,↓qcn,↓qbm,↓qbn,↓qb0,↓qbv,↓qbq,↓qbu,↓qbz,↓qbw,↓qby,↓qbx,↓qbr,↓qbp,↓qb1,↓qbs,↓qbt,↓qbo,↓qe1,↓qe0,↓qe5,↓qe7,↓qe6,↓qez,↓qey,↓qev,↓qew,↓qe4,↓qe3,↓qe2,qc7,↓qes,↓qet,↓qex,↓qc6,↓qc4,↓qc5,↓qe9,↓qfa,↓qfb,↓qe8,qaa,↓qeu,↓qeh,↓qei,↓qfd,↓qfc,↓qek,↓qdm,↓qdu,↓qeb,↓qec,↓qep,↓qeq,↓qdq,↓qdr,↓qdt,↓qds,↓qdz,↓qer,↓qdx,↓qel,↓qdp,↓qef,↓qem,↓qen,↓qeo,↓qd3,↓qd2,↓qd4,↓qd5,↓qd7,↓qd1,↓qd8,↓qea,↓qd9,↓qdn,↓qdo,↓qd0,↓qaw,↓qdy,↓qeg,↓qee,↓qdl,↓qej,↓qed,↓qd6,qav,List.drop_zero,Nat.sub_zero,qc0,qcv,qcw,qdj,qat,qas,qaf,List.map_cons,List.map_nil,List.zip_cons_cons,List.zip_nil_right,List.zip_nil_left,qau,evs,evp,mkB,repB,blen,qae,qad,qac,qab,qc3,qc2,qdi,qdk,qdg,qdh,qcz,qc1,qcx,qcy,↓qde,↓qdd,↓qdf,↓qah,↓qag,↓qai,↓retQ,res,resAll,resOne,kill,apartOk,exp,injV,injB,pur,purs,purR,pursR,List.set_cons_zero,List.set_cons_succ,List.length_cons,List.length_nil,List.cons_append,List.nil_append,List.append_nil,List.append_assoc,List.length_append,List.reduceReplicate,Nat.reduceAdd,Nat.reduceMul,Nat.reduceSub,Nat.reduceEqDiff,Nat.reduceLT,Nat.zero_add,Nat.add_zero,Nat.mul_one,Int.reduceToNat,Int.toNat_natCast,Int.cast_ofNat_Int,Int.reduceLE,Int.reduceLT,Int.reduceEq,reduceCtorEq,↓reduceIte,Bool.true_eq_false,Bool.false_eq_true,Bool.not_true,Bool.not_false,true_and,and_true,and_assoc,qaj,sub1,qda,qc9,qdb,List.length_replicate,Nat.le_refl,false_implies,true_implies,ne_eq,not_true_eq_false,not_false_eq_true,decide_true,decide_false,decide_eq_true_eq,decide_eq_false_iff_not,Bool.not_eq_true',Bool.not_eq_false']
  repeat (refine And.intro (by omega) ?_)
  simp only [out, outs, out1, pur, and_self]
end Am
