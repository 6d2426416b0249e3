/-
Working texts: contracts of functions, and the numbers behind them.
-/
import Derived.Test.YtbmdhkfdigeebaaGcD
import Derived.Test.YtbmdhkfdigeebaaAeS
import Derived.Test.YtbmdhkfdigeebaaIrE
set_option linter.unusedSimpArgs false
set_option linter.unusedVariables false
set_option linter.unusedSectionVars false
set_option linter.unusedSimpArgs false
set_option linter.unusedVariables false
set_option maxRecDepth 20000
namespace Am
open Go.Proofs
/-! ### Sealing and opening, as plain laws -/
theorem xx_self {x f : Int} (hx : Bt x) (hf : Bt f) : bXor .u8 (bXor .u8 x f) f = x := by
  obtain ⟨n, rfl, hn⟩ := hx.nat
  obtain ⟨m, rfl, hm⟩ := hf.nat
  rw [xn hn hm, xn (Nat.xor_lt_two_pow (n := 8) hn hm) hm, Nat.xor_assoc, Nat.xor_self, Nat.xor_zero]
theorem xx_four {a b f : Int} (ha : Bt a) (hb : Bt b) (hf : Bt f) : bXor .u8 (bXor .u8 a f) (bXor .u8 b f) = bXor .u8 a b := by
  obtain ⟨n, rfl, hn⟩ := ha.nat
  obtain ⟨m, rfl, hm⟩ := hb.nat
  obtain ⟨k, rfl, hk⟩ := hf.nat
  rw [xn hn hk, xn hm hk, xn (Nat.xor_lt_two_pow (n := 8) hn hk) (Nat.xor_lt_two_pow (n := 8) hm hk), xn hn hm]
  congr 1
  apply Nat.eq_of_testBit_eq
  intro i
  simp only [Nat.testBit_xor]
  cases n.testBit i <;> cases m.testBit i <;> cases k.testBit i <;> rfl
theorem orn {a b : Nat} (ha : a < 256) (hb : b < 256) : bOr .u8 (a : Int) (b : Int) = ((a ||| b : Nat) : Int) := by
  have hx : a ||| b < 256 := Nat.or_lt_two_pow (n := 8) ha hb
  unfold bOr
  show Go.IntKind.u8.wrap (((BitVec.ofInt 8 (a : Int) ||| BitVec.ofInt 8 (b : Int)).toNat : Nat) : Int) = _
  rw [BitVec.ofInt_natCast, BitVec.ofInt_natCast, BitVec.toNat_or, BitVec.toNat_ofNat, BitVec.toNat_ofNat, Nat.mod_eq_of_lt (by simpa using ha), Nat.mod_eq_of_lt (by simpa using hb), wrap_u8]
  omega
theorem or_zero' {a b : Nat} : a ||| b = 0 ↔ a = 0 ∧ b = 0 := by
  constructor
  · intro h
    have h1 : a ≤ a ||| b := Nat.left_le_or
    have h2 : b ≤ a ||| b := Nat.right_le_or
    omega
  · rintro ⟨rfl, rfl⟩; rfl
theorem or_bt {a b : Int} (ha : Bt a) (hb : Bt b) : Bt (bOr .u8 a b) ∧ (bOr .u8 a b = 0 ↔ a = 0 ∧ b = 0) := by
  obtain ⟨n, rfl, hn⟩ := ha.nat
  obtain ⟨m, rfl, hm⟩ := hb.nat
  have hx : n ||| m < 256 := Nat.or_lt_two_pow (n := 8) hn hm
  rw [orn hn hm]
  refine ⟨⟨by omega, by omega⟩, ?_⟩
  have := or_zero' (a := n) (b := m)
  omega
theorem xor_zero' {a b : Int} (ha : Bt a) (hb : Bt b) : bXor .u8 a b = 0 ↔ a = b := by
  obtain ⟨n, rfl, hn⟩ := ha.nat
  obtain ⟨m, rfl, hm⟩ := hb.nat
  rw [xn hn hm]
  constructor
  · intro h
    have h0 : n ^^^ m = 0 := by omega
    have := congrArg (· ^^^ m) h0
    simp only [Nat.xor_assoc, Nat.xor_self, Nat.xor_zero, Nat.zero_xor] at this
    rw [this]
  · intro h
    have : n = m := by omega
    rw [this, Nat.xor_self]; rfl
theorem df_iff {t u : List Int} (ht : B16 t) (hu : B16 u) : dfF t u = 0 ↔ t = u := by
  have bt : ∀ j, Bt (getI t j) := fun j => ht.2.all (by decide) j
  have bu : ∀ j, Bt (getI u j) := fun j => hu.2.all (by decide) j
  have key : ∀ n, Bt (itr (dfS t u) 0 n) ∧ (itr (dfS t u) 0 n = 0 ↔ ∀ j, j < n → getI t j = getI u j) := by
    intro n
    induction n with
    | zero => exact ⟨⟨by simp [itr], by simp [itr]⟩, ⟨fun _ j hj => by omega, fun _ => rfl⟩⟩
    | succ n ih =>
      rw [itr_s]
      have hx : Bt (bXor .u8 (getI t n) (getI u n)) := x8_bd _ _
      obtain ⟨h1, h2⟩ := or_bt ih.1 hx
      refine ⟨h1, ?_⟩
      show bOr .u8 (itr (dfS t u) 0 n) (bXor .u8 (getI t n) (getI u n)) = 0 ↔ _
      rw [h2, ih.2, xor_zero' (bt n) (bu n)]
      constructor
      · rintro ⟨h3, h4⟩ j hj
        rcases (by omega : j < n ∨ j = n) with h | rfl
        · exact h3 j h
        · exact h4
      · intro h
        exact ⟨fun j hj => h j (by omega), h n (by omega)⟩
  rw [dfF, (key 16).2]
  constructor
  · intro h
    exact getI_ext (ht.1.trans hu.1.symm) fun j hj => h j (by rw [ht.1] at hj; exact hj)
  · rintro rfl j _; rfl
theorem ks_bt {L n : List Int} (hL : L432 L) (hn : B12 n) (j : Nat) : Bt (ksAt L n j) := (strB_ok hL hn _).2.all (by decide) _
theorem xorAt_twice {f : Nat → Int} (hf : ∀ j, Bt (f j)) : ∀ {b : List Int} {o : Nat}, Dig 256 b → xorAt f (xorAt f b o) o = b
  | [], _, _ => rfl
  | x :: r, o, h => by
    simp only [xorAt]
    rw [xx_self (h x (by simp)) (hf o), xorAt_twice hf fun y hy => h y (by simp [hy])]
theorem xorAt_append {f : Nat → Int} : ∀ {a b : List Int} {o : Nat}, xorAt f (a ++ b) o = xorAt f a o ++ xorAt f b (o + a.length)
  | [], _, _ => by simp [xorAt]
  | x :: r, b, o => by
    simp only [List.cons_append, xorAt]
    rw [xorAt_append (a := r), List.length_cons, show o + 1 + r.length = o + (r.length + 1) by omega]
theorem str_twice {L n b : List Int} (hL : L432 L) (hn : B12 n) (hb : Dig 256 b) : strF L n (strF L n b) = b := xorAt_twice (ks_bt hL hn) hb
theorem seal_len (k n a b : List Int) : (sealF k n a b).length = b.length + 16 := by
  simp [sealF, str_len, (tag_ok _ _ _ _).1]
theorem seal_dig (k n a b : List Int) : Dig 256 (sealF k n a b) := (str_dig _ _ _).append (tag_ok _ _ _ _).2
theorem sub_drop {b : List Int} (h : 16 ≤ b.length) : b = bodyF b ++ b.drop (b.length - 16) := by
  simp [bodyF, sub]
/-- What is opened is just what was sealed. -/
theorem opn_iff {k n a b : List Int} (hb : Dig 256 b) : opnB k n a b = true ↔ 16 ≤ b.length ∧ tagF (newF k) n a (bodyF b) = b.drop (b.length - 16) := by
  unfold opnB
  split
  · rename_i h
    constructor
    · intro h; cases h
    · intro h; omega
  · rename_i h
    have hd : B16 (b.drop (b.length - 16)) := ⟨by simp; omega, fun x hx => hb x (List.mem_of_mem_drop hx)⟩
    rw [rightB, decide_eq_true_eq, df_iff (tag_ok _ _ _ _) hd]
    constructor
    · intro h2; exact ⟨by omega, h2⟩
    · intro h2; exact h2.2
theorem opn_seal (k n a b : List Int) (hk : B16 k) (hn : B12 n) (hb : Dig 256 b) : opnB k n a (sealF k n a b) = true ∧ opnS k n a (sealF k n a b) = b := by
  have hl := seal_len k n a b
  have hbd : bodyF (sealF k n a b) = strF (newF k) n b := by
    rw [bodyF, hl, sealF]
    simp [sub, str_len]
  have h : opnB k n a (sealF k n a b) = true := by
    rw [opn_iff (seal_dig _ _ _ _)]
    refine ⟨by omega, ?_⟩
    rw [hbd, hl, sealF]
    simp [str_len]
  refine ⟨h, ?_⟩
  rw [opnS, h, if_pos rfl, hbd, str_twice (new_ok hk) hn hb]
theorem seal_opn {k n a b : List Int} (hk : B16 k) (hn : B12 n) (hb : Dig 256 b) (h : opnB k n a b = true) : sealF k n a (opnS k n a b) = b := by
  obtain ⟨h1, h2⟩ := (opn_iff hb).1 h
  have hbd : Dig 256 (bodyF b) := sub_dig' hb
  rw [opnS, h, if_pos rfl, sealF, str_twice (new_ok hk) hn hbd, h2, ← sub_drop h1]
theorem opn_len {k n a b : List Int} (h : opnB k n a b = true) (hb : Dig 256 b) : (opnS k n a b).length = b.length - 16 := by
  rw [opnS, h, if_pos rfl, str_len]; simp [bodyF, sub]
theorem opn_dig {k n a b : List Int} : Dig 256 (opnS k n a b) := by
  unfold opnS; split
  · exact str_dig _ _ _
  · exact fun x hx => by simp at hx
def z12 : List Int := List.replicate 12 0
theorem z12_ok : B12 z12 := ⟨rfl, fun x hx => by rw [(List.mem_replicate.1 hx).2]; decide⟩
def t09 : List Int := [88, 226, 252, 206, 250, 126, 48, 97, 54, 127, 29, 87, 164, 231, 69, 90]
theorem aw09 : jn (hashF (encR SB z16 z16) [] []) (encR SB z16 (ctrF z12 1)) 16 = t09 := by decide +kernel
theorem seal09 : sealF z16 z12 [] [] = t09 := by
  rw [sealF, show strF (newF z16) z12 [] = [] from rfl, List.nil_append, tagF, aes_eq z16_ok z16_ok, aes_eq z16_ok (ctr_ok z12_ok), box_SB, aw09]
/-! ### Awake -/
def preE9 (ds : List D) : Prop := ds = []
def F19 : List D → Out
  | _ => .one (.v (.bool true))
def s19 : Summ := sData [] preE9 F19
set_option maxHeartbeats 4000000 in
theorem ok19 {g : List Blk} [Ge gl g] : SumOK Try.prog g 19 s19 ∧ SumAbs s19 := by
  refine fsumA (l := [(20, s20)]) mixed gl_plain rfl Try.func19 comp19 compR19 nt19 (by simp only [List.mem_cons, List.not_mem_nil, or_false, forall_eq]; exact ok20) fun ds hd hA => ?_
  rw [hd]
  have hn : Dig 256 ([] : List Int) := fun x hx => by simp at hx
  have q : preSl [.v (.ints .u8 z16), .v (.ints .u8 z12), .s .u8 [], .s .u8 []] := ⟨_, _, _, _, rfl, z16_ok, z12_ok, hn, by decide, hn, by decide⟩
  have f : F20 [.v (.ints .u8 z16), .v (.ints .u8 z12), .s .u8 [], .s .u8 []] = .one (.s .u8 t09) := by
    show Out.one (.s .u8 (sealF z16 z12 [] [])) = _
    rw [seal09]
  have tl : t09.length = 16 := rfl
  have g0 : getI t09 0 = 88 := rfl
  have g1 : getI t09 1 = 226 := rfl
  have g2 : getI t09 2 = 252 := rfl
  have g3 : getI t09 15 = 90 := rfl
  simp only [z16, z12, List.reduceReplicate] at q f
  simp only [s20]
  simp only [ir19,rs19,gl,F19,q,f,tl,g0,g1,g2,g3,qdk,qdg,qaj,List.length_cons,List.length_nil,Nat.reduceAdd,Nat.le_refl,Nat.reduceLeDiff,Nat.reduceLT,true_and,and_true,↓qax,↓qay,↓qa0,↓qaz,↓qcy,↓qbj,↓qa1,↓qcr,↓qb3,↓qco,↓qcb,↓qck,↓qcl,↓qb4,↓qcj,↓qcp,↓qb5,↓qcm,↓qcn,↓qb6,↓qcc,↓qca,↓qb9,↓qb8,↓qb7,↓qa5,↓qbc,↓qa6,↓qbd,↓qa7,↓qbe,↓qa8,↓qbf,↓qa9,↓qbg,↓qba,↓qbh,↓qbb,↓qbi,↓qb2,↓qcq,↓qfq,↓qcu,↓qcv,↓qcw,↓qct,↓qcs,↓qbm,↓qbn,↓qb0,↓qbv,↓qbq,↓qbu,↓qbz,↓qbw,↓qby,↓qbx,↓qbr,↓qbp,↓qb1,↓qbs,↓qbt,↓qbo,↓qfd,↓qfc,↓qfh,↓qfj,↓qfi,↓qfb,↓qfa,↓qe7,↓qe8,↓qfg,↓qff,↓qfe,qdf,↓qe4,↓qe5,↓qe9,↓qdc,↓qda,↓qdb,↓qfl,↓qfm,↓qfn,↓qfk,qaa,↓qe6,↓qer,↓qes,↓qfp,↓qfo,↓qev,↓qdu,↓qd2,↓qej,↓qek,↓qe0,↓qe2,↓qdy,↓qdz,↓qd1,↓qd0,↓qd7,↓qe3,↓qd5,↓qew,↓qdx,↓qep,↓qex,↓qey,↓qez,↓qeb,↓qea,↓qec,↓qed,↓qef,↓qd9,↓qeg,↓qei,↓qeh,↓qdv,↓qdw,↓qd8,↓qaw,↓qd6,↓qeq,↓qem,↓qdt,↓qet,↓qen,↓qeo,↓qeu,↓qcd,↓qce,↓qcf,↓qcg,↓qch,↓qci,qdd,qde,qc1,qc2,↓qel,↓qee,qav,List.drop_zero,Nat.sub_zero,qc6,qcz,qc0,qdr,qat,qas,qaf,List.map_cons,List.map_nil,List.zip_cons_cons,List.zip_nil_right,List.zip_nil_left,qau,evs,evp,mkB,repB,blen,qae,qad,qac,qab,qc9,qc8,qdq,qds,qdo,qdp,qc5,qc7,qc3,qc4,↓qdm,↓qdl,↓qdn,↓qah,↓qag,↓qai,↓retQ,res,resAll,resOne,kill,apartOk,exp,injV,injB,pur,purs,purR,pursR,List.set_cons_zero,List.set_cons_succ,List.length_cons,List.length_nil,List.cons_append,List.nil_append,List.append_nil,List.append_assoc,List.length_append,List.reduceReplicate,Nat.reduceAdd,Nat.reduceMul,Nat.reduceSub,Nat.reduceEqDiff,Nat.reduceLT,Nat.zero_add,Nat.add_zero,Nat.mul_one,Int.reduceToNat,Int.toNat_natCast,Int.cast_ofNat_Int,Int.reduceLE,Int.reduceLT,Int.reduceEq,reduceCtorEq,↓reduceIte,Bool.true_eq_false,Bool.false_eq_true,Bool.not_true,Bool.not_false,true_and,and_true,and_assoc,qaj,sub1,qdi,qdh,qdj,List.length_replicate,Nat.le_refl,false_implies,true_implies,ne_eq,not_true_eq_false,not_false_eq_true,decide_true,decide_false,decide_eq_true_eq,decide_eq_false_iff_not,Bool.not_eq_true',Bool.not_eq_false']
  repeat (refine And.intro (by omega) ?_)
  simp only [out, outs, out1, pur, and_self]
end Am
set_option linter.unusedSimpArgs false
set_option linter.unusedVariables false
set_option maxRecDepth 20000
namespace Am
open Go.Proofs
/-! ### GcmStream, GcmLonger -/
def FTrue09 : List D → Out := fun _ => .one (.v (.bool true))
def preKN (ds : List D) : Prop := ∃ k n a b : List Int, ds = [.v (.ints .u8 k), .v (.ints .u8 n), .s .u8 a, .s .u8 b] ∧ B16 k ∧ B12 n ∧ Dig 256 a ∧ Dig 256 b
theorem getI_app {a b : List Int} {j : Nat} (h : j < a.length) : getI (a ++ b) j = getI a j := by
  simp [getI, List.getD_eq_getElem?_getD, List.getElem?_append_left h]
theorem getI_sub0 {a : List Int} {n j : Nat} (h : j < n) : getI (sub a 0 n) j = getI a j := by
  simp [getI, sub, List.getD_eq_getElem?_getD, List.getElem?_take_of_lt h]
theorem seal_get {k n a b : List Int} (hk : B16 k) (hn : B12 n) {j : Nat} (h : j < b.length) : getI (sealF k n a b) j = bXor .u8 (getI b j) (ksAt (newF k) n j) := by
  rw [sealF, getI_app (by rw [str_len]; exact h), strF, xorAt_get h, Nat.zero_add]
set_option maxHeartbeats 4000000 in
theorem lawGcmStream : ∀ ds, preKN ds → Does Try.prog gl 7 (injV ds 4) (gl ++ injB true ds) (out (4 + (injB true ds).length) (FTrue09 ds)) := by
  refine fdoesA (l := [(19, s19), (20, s20)]) mixed gl_plain rfl Try.func7 comp7 compR7 nt7 (by simp only [List.mem_cons, List.not_mem_nil, or_false, forall_eq_or_imp, forall_eq]; exact ⟨ok19, ok20⟩) fun ds ⟨k, n, a, b, hd, hk, hn, ha, hb⟩ hA => ?_
  subst hd
  have hkl := hk.1
  have hnl := hn.1
  have sk : sub k 0 16 = k := qdk hkl
  have sn : sub n 0 12 = n := qdk hnl
  have qA : preE9 [] := rfl
  obtain ⟨N, hN⟩ : ∃ N, min a.length b.length = N := ⟨_, rfl⟩
  have hmin : min (a.length : Int) (b.length : Int) = (N : Int) := by omega
  have hNa : N ≤ a.length := by omega
  have hNb : N ≤ b.length := by omega
  simp only [s19, s20]
  by_cases h200 : 200 < N
  · have c1 : (200 : Int) < (N : Int) := by omega
    simp only [ir7,rs7,gl,FTrue09,F19,qA,hkl,hnl,sk,sn,hmin,c1,s19,qdk,qdg,qaj,List.length_cons,List.length_nil,Nat.reduceAdd,Nat.le_refl,Nat.reduceLeDiff,Nat.reduceLT,true_and,and_true,↓qax,↓qay,↓qa0,↓qaz,↓qcy,↓qbj,↓qa1,↓qcr,↓qb3,↓qco,↓qcb,↓qck,↓qcl,↓qb4,↓qcj,↓qcp,↓qb5,↓qcm,↓qcn,↓qb6,↓qcc,↓qca,↓qb9,↓qb8,↓qb7,↓qa5,↓qbc,↓qa6,↓qbd,↓qa7,↓qbe,↓qa8,↓qbf,↓qa9,↓qbg,↓qba,↓qbh,↓qbb,↓qbi,↓qb2,↓qcq,↓qfq,↓qcu,↓qcv,↓qcw,↓qct,↓qcs,↓qbm,↓qbn,↓qb0,↓qbv,↓qbq,↓qbu,↓qbz,↓qbw,↓qby,↓qbx,↓qbr,↓qbp,↓qb1,↓qbs,↓qbt,↓qbo,↓qfd,↓qfc,↓qfh,↓qfj,↓qfi,↓qfb,↓qfa,↓qe7,↓qe8,↓qfg,↓qff,↓qfe,qdf,↓qe4,↓qe5,↓qe9,↓qdc,↓qda,↓qdb,↓qfl,↓qfm,↓qfn,↓qfk,qaa,↓qe6,↓qer,↓qes,↓qfp,↓qfo,↓qev,↓qdu,↓qd2,↓qej,↓qek,↓qe0,↓qe2,↓qdy,↓qdz,↓qd1,↓qd0,↓qd7,↓qe3,↓qd5,↓qew,↓qdx,↓qep,↓qex,↓qey,↓qez,↓qeb,↓qea,↓qec,↓qed,↓qef,↓qd9,↓qeg,↓qei,↓qeh,↓qdv,↓qdw,↓qd8,↓qaw,↓qd6,↓qeq,↓qem,↓qdt,↓qet,↓qen,↓qeo,↓qeu,↓qcd,↓qce,↓qcf,↓qcg,↓qch,↓qci,qdd,qde,qc1,qc2,↓qel,↓qee,qav,List.drop_zero,Nat.sub_zero,qc6,qcz,qc0,qdr,qat,qas,qaf,List.map_cons,List.map_nil,List.zip_cons_cons,List.zip_nil_right,List.zip_nil_left,qau,evs,evp,mkB,repB,blen,qae,qad,qac,qab,qc9,qc8,qdq,qds,qdo,qdp,qc5,qc7,qc3,qc4,↓qdm,↓qdl,↓qdn,↓qah,↓qag,↓qai,↓retQ,res,resAll,resOne,kill,apartOk,exp,injV,injB,pur,purs,purR,pursR,List.set_cons_zero,List.set_cons_succ,List.length_cons,List.length_nil,List.cons_append,List.nil_append,List.append_nil,List.append_assoc,List.length_append,List.reduceReplicate,Nat.reduceAdd,Nat.reduceMul,Nat.reduceSub,Nat.reduceEqDiff,Nat.reduceLT,Nat.zero_add,Nat.add_zero,Nat.mul_one,Int.reduceToNat,Int.toNat_natCast,Int.cast_ofNat_Int,Int.reduceLE,Int.reduceLT,Int.reduceEq,reduceCtorEq,↓reduceIte,Bool.true_eq_false,Bool.false_eq_true,Bool.not_true,Bool.not_false,true_and,and_true,and_assoc,qaj,sub1,qdi,qdh,qdj,List.length_replicate,Nat.le_refl,false_implies,true_implies,ne_eq,not_true_eq_false,not_false_eq_true,decide_true,decide_false,decide_eq_true_eq,decide_eq_false_iff_not,Bool.not_eq_true',Bool.not_eq_false']
    exact out_bool rfl
  have c1 : ¬ (200 : Int) < (N : Int) := by omega
  have hn0 : Dig 256 ([] : List Int) := fun x hx => by simp at hx
  have ha' : Dig 256 (sub a 0 N) := sub_dig' ha
  have hb' : Dig 256 (sub b 0 N) := sub_dig' hb
  have la : (sub a 0 N).length = N := by simp [sub]; omega
  have lb : (sub b 0 N).length = N := by simp [sub]; omega
  have q1 : preSl [.v (.ints .u8 k), .v (.ints .u8 n), .s .u8 [], .s .u8 (sub a 0 N)] := ⟨_, _, _, _, rfl, hk, hn, hn0, by decide, ha', by omega⟩
  have q2 : preSl [.v (.ints .u8 k), .v (.ints .u8 n), .s .u8 [1], .s .u8 (sub b 0 N)] := ⟨_, _, _, _, rfl, hk, hn, fun x hx => by simp at hx; omega, by decide, hb', by omega⟩
  have f1 : F20 [.v (.ints .u8 k), .v (.ints .u8 n), .s .u8 [], .s .u8 (sub a 0 N)] = .one (.s .u8 (sealF k n [] (sub a 0 N))) := rfl
  have f2 : F20 [.v (.ints .u8 k), .v (.ints .u8 n), .s .u8 [1], .s .u8 (sub b 0 N)] = .one (.s .u8 (sealF k n [1] (sub b 0 N))) := rfl
  have lx := seal_len k n [] (sub a 0 N)
  have ly := seal_len k n [1] (sub b 0 N)
  have hxy : ∀ j, j < N → bXor .u8 (getI (sealF k n [] (sub a 0 N)) j) (getI (sealF k n [1] (sub b 0 N)) j) = bXor .u8 (getI a j) (getI b j) := fun j hj => by
    rw [seal_get hk hn (by omega), seal_get hk hn (by omega), getI_sub0 hj, getI_sub0 hj, xx_four (ha.all (by decide) j) (hb.all (by decide) j) (ks_bt (new_ok hk) hn j)]
  rw [la] at lx
  rw [lb] at ly
  obtain ⟨a', ea⟩ : ∃ a', sub a 0 N = a' := ⟨_, rfl⟩
  obtain ⟨b', eb⟩ : ∃ b', sub b 0 N = b' := ⟨_, rfl⟩
  rw [ea] at q1 f1 lx hxy
  rw [eb] at q2 f2 ly hxy
  obtain ⟨X, hX⟩ : ∃ X, sealF k n [] a' = X := ⟨_, rfl⟩
  obtain ⟨Y, hY⟩ : ∃ Y, sealF k n [1] b' = Y := ⟨_, rfl⟩
  rw [hX] at f1 lx hxy
  rw [hY] at f2 ly hxy
  have s1 : sub [(1 : Int)] 0 1 = [1] := rfl
  have wN : Go.IntKind.i64.wrap ((N : Int) + 16) = ((N + 16 : Nat) : Int) := by rw [wrap_i64]; omega
  simp only [ir7,rs7,gl,FTrue09,F19,qA,hkl,hnl,sk,sn,hmin,c1,ea,eb,q1,q2,f1,f2,lx,ly,s1,hNa,hNb,s19,qdk,qdg,qaj,List.length_cons,List.length_nil,Nat.reduceAdd,Nat.le_refl,Nat.reduceLeDiff,Nat.reduceLT,true_and,and_true,↓qax,↓qay,↓qa0,↓qaz,↓qcy,↓qbj,↓qa1,↓qcr,↓qb3,↓qco,↓qcb,↓qck,↓qcl,↓qb4,↓qcj,↓qcp,↓qb5,↓qcm,↓qcn,↓qb6,↓qcc,↓qca,↓qb9,↓qb8,↓qb7,↓qa5,↓qbc,↓qa6,↓qbd,↓qa7,↓qbe,↓qa8,↓qbf,↓qa9,↓qbg,↓qba,↓qbh,↓qbb,↓qbi,↓qb2,↓qcq,↓qfq,↓qcu,↓qcv,↓qcw,↓qct,↓qcs,↓qbm,↓qbn,↓qb0,↓qbv,↓qbq,↓qbu,↓qbz,↓qbw,↓qby,↓qbx,↓qbr,↓qbp,↓qb1,↓qbs,↓qbt,↓qbo,↓qfd,↓qfc,↓qfh,↓qfj,↓qfi,↓qfb,↓qfa,↓qe7,↓qe8,↓qfg,↓qff,↓qfe,qdf,↓qe4,↓qe5,↓qe9,↓qdc,↓qda,↓qdb,↓qfl,↓qfm,↓qfn,↓qfk,qaa,↓qe6,↓qer,↓qes,↓qfp,↓qfo,↓qev,↓qdu,↓qd2,↓qej,↓qek,↓qe0,↓qe2,↓qdy,↓qdz,↓qd1,↓qd0,↓qd7,↓qe3,↓qd5,↓qew,↓qdx,↓qep,↓qex,↓qey,↓qez,↓qeb,↓qea,↓qec,↓qed,↓qef,↓qd9,↓qeg,↓qei,↓qeh,↓qdv,↓qdw,↓qd8,↓qaw,↓qd6,↓qeq,↓qem,↓qdt,↓qet,↓qen,↓qeo,↓qeu,↓qcd,↓qce,↓qcf,↓qcg,↓qch,↓qci,qdd,qde,qc1,qc2,↓qel,↓qee,qav,List.drop_zero,Nat.sub_zero,qc6,qcz,qc0,qdr,qat,qas,qaf,List.map_cons,List.map_nil,List.zip_cons_cons,List.zip_nil_right,List.zip_nil_left,qau,evs,evp,mkB,repB,blen,qae,qad,qac,qab,qc9,qc8,qdq,qds,qdo,qdp,qc5,qc7,qc3,qc4,↓qdm,↓qdl,↓qdn,↓qah,↓qag,↓qai,↓retQ,res,resAll,resOne,kill,apartOk,exp,injV,injB,pur,purs,purR,pursR,List.set_cons_zero,List.set_cons_succ,List.length_cons,List.length_nil,List.cons_append,List.nil_append,List.append_nil,List.append_assoc,List.length_append,List.reduceReplicate,Nat.reduceAdd,Nat.reduceMul,Nat.reduceSub,Nat.reduceEqDiff,Nat.reduceLT,Nat.zero_add,Nat.add_zero,Nat.mul_one,Int.reduceToNat,Int.toNat_natCast,Int.cast_ofNat_Int,Int.reduceLE,Int.reduceLT,Int.reduceEq,reduceCtorEq,↓reduceIte,Bool.true_eq_false,Bool.false_eq_true,Bool.not_true,Bool.not_false,true_and,and_true,and_assoc,qaj,sub1,qdi,qdh,qdj,List.length_replicate,Nat.le_refl,false_implies,true_implies,ne_eq,not_true_eq_false,not_false_eq_true,decide_true,decide_false,decide_eq_true_eq,decide_eq_false_iff_not,Bool.not_eq_true',Bool.not_eq_false']
  repeat (refine And.intro (by omega) ?_)
  refine awp_loopA (n := 71) hA [2, 3, 9, 10, 11, 35, 36] (by decide +kernel) (fun i : Nat => [.slice 4 0 1 a.length a.length, .slice 5 0 1 b.length b.length, .int .i64 N, .slice 8 0 1 (N + 16) (N + 16), .slice 10 0 1 (N + 16) (N + 16), .int .i64 N, .int .i64 i])
    (fun i => [.dead, .dead, .dead, .dead, .ints true .u8 a, .ints true .u8 b, .ints false .u8 k, .ints false .u8 n, .ints false .u8 X, .ints false .u8 [1], .ints false .u8 Y]) (fun i => i ≤ N) (fun i => N - i) 0 ?_ (by omega) ?_
  · refine Hd.same ?_
    simp only [↓qax,↓qay,↓qa0,↓qaz,↓qcy,↓qbj,↓qa1,↓qcr,↓qb3,↓qco,↓qcb,↓qck,↓qcl,↓qb4,↓qcj,↓qcp,↓qb5,↓qcm,↓qcn,↓qb6,↓qcc,↓qca,↓qb9,↓qb8,↓qb7,↓qa5,↓qbc,↓qa6,↓qbd,↓qa7,↓qbe,↓qa8,↓qbf,↓qa9,↓qbg,↓qba,↓qbh,↓qbb,↓qbi,↓qb2,↓qcq,↓qfq,↓qcu,↓qcv,↓qcw,↓qct,↓qcs,↓qbm,↓qbn,↓qb0,↓qbv,↓qbq,↓qbu,↓qbz,↓qbw,↓qby,↓qbx,↓qbr,↓qbp,↓qb1,↓qbs,↓qbt,↓qbo,↓qfd,↓qfc,↓qfh,↓qfj,↓qfi,↓qfb,↓qfa,↓qe7,↓qe8,↓qfg,↓qff,↓qfe,qdf,↓qe4,↓qe5,↓qe9,↓qdc,↓qda,↓qdb,↓qfl,↓qfm,↓qfn,↓qfk,qaa,↓qe6,↓qer,↓qes,↓qfp,↓qfo,↓qev,↓qdu,↓qd2,↓qej,↓qek,↓qe0,↓qe2,↓qdy,↓qdz,↓qd1,↓qd0,↓qd7,↓qe3,↓qd5,↓qew,↓qdx,↓qep,↓qex,↓qey,↓qez,↓qeb,↓qea,↓qec,↓qed,↓qef,↓qd9,↓qeg,↓qei,↓qeh,↓qdv,↓qdw,↓qd8,↓qaw,↓qd6,↓qeq,↓qem,↓qdt,↓qet,↓qen,↓qeo,↓qeu,↓qcd,↓qce,↓qcf,↓qcg,↓qch,↓qci,qdd,qde,qc1,qc2,↓qel,↓qee,qav,List.drop_zero,Nat.sub_zero,qc6,qcz,qc0,qdr,qat,qas,qaf,List.map_cons,List.map_nil,List.zip_cons_cons,List.zip_nil_right,List.zip_nil_left,qau,evs,evp,mkB,repB,blen,qae,qad,qac,qab,qc9,qc8,qdq,qds,qdo,qdp,qc5,qc7,qc3,qc4,↓qdm,↓qdl,↓qdn,↓qah,↓qag,↓qai,↓retQ,res,resAll,resOne,kill,apartOk,exp,injV,injB,pur,purs,purR,pursR,List.set_cons_zero,List.set_cons_succ,List.length_cons,List.length_nil,List.cons_append,List.nil_append,List.append_nil,List.append_assoc,List.length_append,List.reduceReplicate,Nat.reduceAdd,Nat.reduceMul,Nat.reduceSub,Nat.reduceEqDiff,Nat.reduceLT,Nat.zero_add,Nat.add_zero,Nat.mul_one,Int.reduceToNat,Int.toNat_natCast,Int.cast_ofNat_Int,Int.reduceLE,Int.reduceLT,Int.reduceEq,reduceCtorEq,↓reduceIte,Bool.true_eq_false,Bool.false_eq_true,Bool.not_true,Bool.not_false,true_and,and_true,and_assoc,qaj,sub1,qdi,qdh,qdj,List.length_replicate,Nat.le_refl,false_implies,true_implies,ne_eq,not_true_eq_false,not_false_eq_true,decide_true,decide_false,decide_eq_true_eq,decide_eq_false_iff_not,Bool.not_eq_true',Bool.not_eq_false']
  intro i hi K hK
  simp only [s19, s20]
  by_cases hlt : i < N
  · have c2 : (i : Int) < (N : Int) := by omega
    have wi : Go.IntKind.i64.wrap ((i : Int) + 1) = ((i + 1 : Nat) : Int) := by rw [wrap_i64]; omega
    have h1 := hxy i hlt
    have b1 : i < a.length := by omega
    have b2 : i < b.length := by omega
    have b3 : i < N + 16 := by omega
    simp only [c2,wi,lx,ly,b1,b2,b3,h1,eq_self,qdk,qdg,qaj,List.length_cons,List.length_nil,Nat.reduceAdd,Nat.le_refl,Nat.reduceLeDiff,Nat.reduceLT,true_and,and_true,↓qax,↓qay,↓qa0,↓qaz,↓qcy,↓qbj,↓qa1,↓qcr,↓qb3,↓qco,↓qcb,↓qck,↓qcl,↓qb4,↓qcj,↓qcp,↓qb5,↓qcm,↓qcn,↓qb6,↓qcc,↓qca,↓qb9,↓qb8,↓qb7,↓qa5,↓qbc,↓qa6,↓qbd,↓qa7,↓qbe,↓qa8,↓qbf,↓qa9,↓qbg,↓qba,↓qbh,↓qbb,↓qbi,↓qb2,↓qcq,↓qfq,↓qcu,↓qcv,↓qcw,↓qct,↓qcs,↓qbm,↓qbn,↓qb0,↓qbv,↓qbq,↓qbu,↓qbz,↓qbw,↓qby,↓qbx,↓qbr,↓qbp,↓qb1,↓qbs,↓qbt,↓qbo,↓qfd,↓qfc,↓qfh,↓qfj,↓qfi,↓qfb,↓qfa,↓qe7,↓qe8,↓qfg,↓qff,↓qfe,qdf,↓qe4,↓qe5,↓qe9,↓qdc,↓qda,↓qdb,↓qfl,↓qfm,↓qfn,↓qfk,qaa,↓qe6,↓qer,↓qes,↓qfp,↓qfo,↓qev,↓qdu,↓qd2,↓qej,↓qek,↓qe0,↓qe2,↓qdy,↓qdz,↓qd1,↓qd0,↓qd7,↓qe3,↓qd5,↓qew,↓qdx,↓qep,↓qex,↓qey,↓qez,↓qeb,↓qea,↓qec,↓qed,↓qef,↓qd9,↓qeg,↓qei,↓qeh,↓qdv,↓qdw,↓qd8,↓qaw,↓qd6,↓qeq,↓qem,↓qdt,↓qet,↓qen,↓qeo,↓qeu,↓qcd,↓qce,↓qcf,↓qcg,↓qch,↓qci,qdd,qde,qc1,qc2,↓qel,↓qee,qav,List.drop_zero,Nat.sub_zero,qc6,qcz,qc0,qdr,qat,qas,qaf,List.map_cons,List.map_nil,List.zip_cons_cons,List.zip_nil_right,List.zip_nil_left,qau,evs,evp,mkB,repB,blen,qae,qad,qac,qab,qc9,qc8,qdq,qds,qdo,qdp,qc5,qc7,qc3,qc4,↓qdm,↓qdl,↓qdn,↓qah,↓qag,↓qai,↓retQ,res,resAll,resOne,kill,apartOk,exp,injV,injB,pur,purs,purR,pursR,List.set_cons_zero,List.set_cons_succ,List.length_cons,List.length_nil,List.cons_append,List.nil_append,List.append_nil,List.append_assoc,List.length_append,List.reduceReplicate,Nat.reduceAdd,Nat.reduceMul,Nat.reduceSub,Nat.reduceEqDiff,Nat.reduceLT,Nat.zero_add,Nat.add_zero,Nat.mul_one,Int.reduceToNat,Int.toNat_natCast,Int.cast_ofNat_Int,Int.reduceLE,Int.reduceLT,Int.reduceEq,reduceCtorEq,↓reduceIte,Bool.true_eq_false,Bool.false_eq_true,Bool.not_true,Bool.not_false,true_and,and_true,and_assoc,qaj,sub1,qdi,qdh,qdj,List.length_replicate,Nat.le_refl,false_implies,true_implies,ne_eq,not_true_eq_false,not_false_eq_true,decide_true,decide_false,decide_eq_true_eq,decide_eq_false_iff_not,Bool.not_eq_true',Bool.not_eq_false']
    repeat (refine And.intro (by omega) ?_)
    refine ⟨i + 1, hK _ (by omega) (by omega), Hd.same ?_⟩
    simp only [↓qax,↓qay,↓qa0,↓qaz,↓qcy,↓qbj,↓qa1,↓qcr,↓qb3,↓qco,↓qcb,↓qck,↓qcl,↓qb4,↓qcj,↓qcp,↓qb5,↓qcm,↓qcn,↓qb6,↓qcc,↓qca,↓qb9,↓qb8,↓qb7,↓qa5,↓qbc,↓qa6,↓qbd,↓qa7,↓qbe,↓qa8,↓qbf,↓qa9,↓qbg,↓qba,↓qbh,↓qbb,↓qbi,↓qb2,↓qcq,↓qfq,↓qcu,↓qcv,↓qcw,↓qct,↓qcs,↓qbm,↓qbn,↓qb0,↓qbv,↓qbq,↓qbu,↓qbz,↓qbw,↓qby,↓qbx,↓qbr,↓qbp,↓qb1,↓qbs,↓qbt,↓qbo,↓qfd,↓qfc,↓qfh,↓qfj,↓qfi,↓qfb,↓qfa,↓qe7,↓qe8,↓qfg,↓qff,↓qfe,qdf,↓qe4,↓qe5,↓qe9,↓qdc,↓qda,↓qdb,↓qfl,↓qfm,↓qfn,↓qfk,qaa,↓qe6,↓qer,↓qes,↓qfp,↓qfo,↓qev,↓qdu,↓qd2,↓qej,↓qek,↓qe0,↓qe2,↓qdy,↓qdz,↓qd1,↓qd0,↓qd7,↓qe3,↓qd5,↓qew,↓qdx,↓qep,↓qex,↓qey,↓qez,↓qeb,↓qea,↓qec,↓qed,↓qef,↓qd9,↓qeg,↓qei,↓qeh,↓qdv,↓qdw,↓qd8,↓qaw,↓qd6,↓qeq,↓qem,↓qdt,↓qet,↓qen,↓qeo,↓qeu,↓qcd,↓qce,↓qcf,↓qcg,↓qch,↓qci,qdd,qde,qc1,qc2,↓qel,↓qee,qav,List.drop_zero,Nat.sub_zero,qc6,qcz,qc0,qdr,qat,qas,qaf,List.map_cons,List.map_nil,List.zip_cons_cons,List.zip_nil_right,List.zip_nil_left,qau,evs,evp,mkB,repB,blen,qae,qad,qac,qab,qc9,qc8,qdq,qds,qdo,qdp,qc5,qc7,qc3,qc4,↓qdm,↓qdl,↓qdn,↓qah,↓qag,↓qai,↓retQ,res,resAll,resOne,kill,apartOk,exp,injV,injB,pur,purs,purR,pursR,List.set_cons_zero,List.set_cons_succ,List.length_cons,List.length_nil,List.cons_append,List.nil_append,List.append_nil,List.append_assoc,List.length_append,List.reduceReplicate,Nat.reduceAdd,Nat.reduceMul,Nat.reduceSub,Nat.reduceEqDiff,Nat.reduceLT,Nat.zero_add,Nat.add_zero,Nat.mul_one,Int.reduceToNat,Int.toNat_natCast,Int.cast_ofNat_Int,Int.reduceLE,Int.reduceLT,Int.reduceEq,reduceCtorEq,↓reduceIte,Bool.true_eq_false,Bool.false_eq_true,Bool.not_true,Bool.not_false,true_and,and_true,and_assoc,qaj,sub1,qdi,qdh,qdj,List.length_replicate,Nat.le_refl,false_implies,true_implies,ne_eq,not_true_eq_false,not_false_eq_true,decide_true,decide_false,decide_eq_true_eq,decide_eq_false_iff_not,Bool.not_eq_true',Bool.not_eq_false']
  obtain rfl : i = N := by omega
  have c2 : ¬ (i : Int) < (i : Int) := by omega
  simp only [c2,wN,lx,ly,eq_self,qdk,qdg,qaj,List.length_cons,List.length_nil,Nat.reduceAdd,Nat.le_refl,Nat.reduceLeDiff,Nat.reduceLT,true_and,and_true,↓qax,↓qay,↓qa0,↓qaz,↓qcy,↓qbj,↓qa1,↓qcr,↓qb3,↓qco,↓qcb,↓qck,↓qcl,↓qb4,↓qcj,↓qcp,↓qb5,↓qcm,↓qcn,↓qb6,↓qcc,↓qca,↓qb9,↓qb8,↓qb7,↓qa5,↓qbc,↓qa6,↓qbd,↓qa7,↓qbe,↓qa8,↓qbf,↓qa9,↓qbg,↓qba,↓qbh,↓qbb,↓qbi,↓qb2,↓qcq,↓qfq,↓qcu,↓qcv,↓qcw,↓qct,↓qcs,↓qbm,↓qbn,↓qb0,↓qbv,↓qbq,↓qbu,↓qbz,↓qbw,↓qby,↓qbx,↓qbr,↓qbp,↓qb1,↓qbs,↓qbt,↓qbo,↓qfd,↓qfc,↓qfh,↓qfj,↓qfi,↓qfb,↓qfa,↓qe7,↓qe8,↓qfg,↓qff,↓qfe,qdf,↓qe4,↓qe5,↓qe9,↓qdc,↓qda,↓qdb,↓qfl,↓qfm,↓qfn,↓qfk,qaa,↓qe6,↓qer,↓qes,↓qfp,↓qfo,↓qev,↓qdu,↓qd2,↓qej,↓qek,↓qe0,↓qe2,↓qdy,↓qdz,↓qd1,↓qd0,↓qd7,↓qe3,↓qd5,↓qew,↓qdx,↓qep,↓qex,↓qey,↓qez,↓qeb,↓qea,↓qec,↓qed,↓qef,↓qd9,↓qeg,↓qei,↓qeh,↓qdv,↓qdw,↓qd8,↓qaw,↓qd6,↓qeq,↓qem,↓qdt,↓qet,↓qen,↓qeo,↓qeu,↓qcd,↓qce,↓qcf,↓qcg,↓qch,↓qci,qdd,qde,qc1,qc2,↓qel,↓qee,qav,List.drop_zero,Nat.sub_zero,qc6,qcz,qc0,qdr,qat,qas,qaf,List.map_cons,List.map_nil,List.zip_cons_cons,List.zip_nil_right,List.zip_nil_left,qau,evs,evp,mkB,repB,blen,qae,qad,qac,qab,qc9,qc8,qdq,qds,qdo,qdp,qc5,qc7,qc3,qc4,↓qdm,↓qdl,↓qdn,↓qah,↓qag,↓qai,↓retQ,res,resAll,resOne,kill,apartOk,exp,injV,injB,pur,purs,purR,pursR,List.set_cons_zero,List.set_cons_succ,List.length_cons,List.length_nil,List.cons_append,List.nil_append,List.append_nil,List.append_assoc,List.length_append,List.reduceReplicate,Nat.reduceAdd,Nat.reduceMul,Nat.reduceSub,Nat.reduceEqDiff,Nat.reduceLT,Nat.zero_add,Nat.add_zero,Nat.mul_one,Int.reduceToNat,Int.toNat_natCast,Int.cast_ofNat_Int,Int.reduceLE,Int.reduceLT,Int.reduceEq,reduceCtorEq,↓reduceIte,Bool.true_eq_false,Bool.false_eq_true,Bool.not_true,Bool.not_false,true_and,and_true,and_assoc,qaj,sub1,qdi,qdh,qdj,List.length_replicate,Nat.le_refl,false_implies,true_implies,ne_eq,not_true_eq_false,not_false_eq_true,decide_true,decide_false,decide_eq_true_eq,decide_eq_false_iff_not,Bool.not_eq_true',Bool.not_eq_false']
  exact out_bool rfl
set_option maxHeartbeats 4000000 in
theorem lawGcmLonger : ∀ ds, preKN ds → Does Try.prog gl 8 (injV ds 4) (gl ++ injB true ds) (out (4 + (injB true ds).length) (FTrue09 ds)) := by
  refine fdoesA (l := [(19, s19), (20, s20)]) mixed gl_plain rfl Try.func8 comp8 compR8 nt8 (by simp only [List.mem_cons, List.not_mem_nil, or_false, forall_eq_or_imp, forall_eq]; exact ⟨ok19, ok20⟩) fun ds ⟨k, n, a, b, hd, hk, hn, ha, hb⟩ hA => ?_
  subst hd
  have hkl := hk.1
  have hnl := hn.1
  have sk : sub k 0 16 = k := qdk hkl
  have sn : sub n 0 12 = n := qdk hnl
  have sa := qdi a
  have sb := qdi b
  have qA : preE9 [] := rfl
  simp only [s19, s20]
  by_cases h1 : 100 < a.length
  · have c1 : (100 : Int) < (a.length : Int) := by omega
    simp only [ir8,rs8,gl,FTrue09,F19,qA,hkl,hnl,sk,sn,c1,s19,qdk,qdg,qaj,List.length_cons,List.length_nil,Nat.reduceAdd,Nat.le_refl,Nat.reduceLeDiff,Nat.reduceLT,true_and,and_true,↓qax,↓qay,↓qa0,↓qaz,↓qcy,↓qbj,↓qa1,↓qcr,↓qb3,↓qco,↓qcb,↓qck,↓qcl,↓qb4,↓qcj,↓qcp,↓qb5,↓qcm,↓qcn,↓qb6,↓qcc,↓qca,↓qb9,↓qb8,↓qb7,↓qa5,↓qbc,↓qa6,↓qbd,↓qa7,↓qbe,↓qa8,↓qbf,↓qa9,↓qbg,↓qba,↓qbh,↓qbb,↓qbi,↓qb2,↓qcq,↓qfq,↓qcu,↓qcv,↓qcw,↓qct,↓qcs,↓qbm,↓qbn,↓qb0,↓qbv,↓qbq,↓qbu,↓qbz,↓qbw,↓qby,↓qbx,↓qbr,↓qbp,↓qb1,↓qbs,↓qbt,↓qbo,↓qfd,↓qfc,↓qfh,↓qfj,↓qfi,↓qfb,↓qfa,↓qe7,↓qe8,↓qfg,↓qff,↓qfe,qdf,↓qe4,↓qe5,↓qe9,↓qdc,↓qda,↓qdb,↓qfl,↓qfm,↓qfn,↓qfk,qaa,↓qe6,↓qer,↓qes,↓qfp,↓qfo,↓qev,↓qdu,↓qd2,↓qej,↓qek,↓qe0,↓qe2,↓qdy,↓qdz,↓qd1,↓qd0,↓qd7,↓qe3,↓qd5,↓qew,↓qdx,↓qep,↓qex,↓qey,↓qez,↓qeb,↓qea,↓qec,↓qed,↓qef,↓qd9,↓qeg,↓qei,↓qeh,↓qdv,↓qdw,↓qd8,↓qaw,↓qd6,↓qeq,↓qem,↓qdt,↓qet,↓qen,↓qeo,↓qeu,↓qcd,↓qce,↓qcf,↓qcg,↓qch,↓qci,qdd,qde,qc1,qc2,↓qel,↓qee,qav,List.drop_zero,Nat.sub_zero,qc6,qcz,qc0,qdr,qat,qas,qaf,List.map_cons,List.map_nil,List.zip_cons_cons,List.zip_nil_right,List.zip_nil_left,qau,evs,evp,mkB,repB,blen,qae,qad,qac,qab,qc9,qc8,qdq,qds,qdo,qdp,qc5,qc7,qc3,qc4,↓qdm,↓qdl,↓qdn,↓qah,↓qag,↓qai,↓retQ,res,resAll,resOne,kill,apartOk,exp,injV,injB,pur,purs,purR,pursR,List.set_cons_zero,List.set_cons_succ,List.length_cons,List.length_nil,List.cons_append,List.nil_append,List.append_nil,List.append_assoc,List.length_append,List.reduceReplicate,Nat.reduceAdd,Nat.reduceMul,Nat.reduceSub,Nat.reduceEqDiff,Nat.reduceLT,Nat.zero_add,Nat.add_zero,Nat.mul_one,Int.reduceToNat,Int.toNat_natCast,Int.cast_ofNat_Int,Int.reduceLE,Int.reduceLT,Int.reduceEq,reduceCtorEq,↓reduceIte,Bool.true_eq_false,Bool.false_eq_true,Bool.not_true,Bool.not_false,true_and,and_true,and_assoc,qaj,sub1,qdi,qdh,qdj,List.length_replicate,Nat.le_refl,false_implies,true_implies,ne_eq,not_true_eq_false,not_false_eq_true,decide_true,decide_false,decide_eq_true_eq,decide_eq_false_iff_not,Bool.not_eq_true',Bool.not_eq_false']
    exact out_bool rfl
  have c1 : ¬ (100 : Int) < (a.length : Int) := by omega
  by_cases h2 : 100 < b.length
  · have c2 : (100 : Int) < (b.length : Int) := by omega
    simp only [ir8,rs8,gl,FTrue09,F19,qA,hkl,hnl,sk,sn,c1,c2,s19,qdk,qdg,qaj,List.length_cons,List.length_nil,Nat.reduceAdd,Nat.le_refl,Nat.reduceLeDiff,Nat.reduceLT,true_and,and_true,↓qax,↓qay,↓qa0,↓qaz,↓qcy,↓qbj,↓qa1,↓qcr,↓qb3,↓qco,↓qcb,↓qck,↓qcl,↓qb4,↓qcj,↓qcp,↓qb5,↓qcm,↓qcn,↓qb6,↓qcc,↓qca,↓qb9,↓qb8,↓qb7,↓qa5,↓qbc,↓qa6,↓qbd,↓qa7,↓qbe,↓qa8,↓qbf,↓qa9,↓qbg,↓qba,↓qbh,↓qbb,↓qbi,↓qb2,↓qcq,↓qfq,↓qcu,↓qcv,↓qcw,↓qct,↓qcs,↓qbm,↓qbn,↓qb0,↓qbv,↓qbq,↓qbu,↓qbz,↓qbw,↓qby,↓qbx,↓qbr,↓qbp,↓qb1,↓qbs,↓qbt,↓qbo,↓qfd,↓qfc,↓qfh,↓qfj,↓qfi,↓qfb,↓qfa,↓qe7,↓qe8,↓qfg,↓qff,↓qfe,qdf,↓qe4,↓qe5,↓qe9,↓qdc,↓qda,↓qdb,↓qfl,↓qfm,↓qfn,↓qfk,qaa,↓qe6,↓qer,↓qes,↓qfp,↓qfo,↓qev,↓qdu,↓qd2,↓qej,↓qek,↓qe0,↓qe2,↓qdy,↓qdz,↓qd1,↓qd0,↓qd7,↓qe3,↓qd5,↓qew,↓qdx,↓qep,↓qex,↓qey,↓qez,↓qeb,↓qea,↓qec,↓qed,↓qef,↓qd9,↓qeg,↓qei,↓qeh,↓qdv,↓qdw,↓qd8,↓qaw,↓qd6,↓qeq,↓qem,↓qdt,↓qet,↓qen,↓qeo,↓qeu,↓qcd,↓qce,↓qcf,↓qcg,↓qch,↓qci,qdd,qde,qc1,qc2,↓qel,↓qee,qav,List.drop_zero,Nat.sub_zero,qc6,qcz,qc0,qdr,qat,qas,qaf,List.map_cons,List.map_nil,List.zip_cons_cons,List.zip_nil_right,List.zip_nil_left,qau,evs,evp,mkB,repB,blen,qae,qad,qac,qab,qc9,qc8,qdq,qds,qdo,qdp,qc5,qc7,qc3,qc4,↓qdm,↓qdl,↓qdn,↓qah,↓qag,↓qai,↓retQ,res,resAll,resOne,kill,apartOk,exp,injV,injB,pur,purs,purR,pursR,List.set_cons_zero,List.set_cons_succ,List.length_cons,List.length_nil,List.cons_append,List.nil_append,List.append_nil,List.append_assoc,List.length_append,List.reduceReplicate,Nat.reduceAdd,Nat.reduceMul,Nat.reduceSub,Nat.reduceEqDiff,Nat.reduceLT,Nat.zero_add,Nat.add_zero,Nat.mul_one,Int.reduceToNat,Int.toNat_natCast,Int.cast_ofNat_Int,Int.reduceLE,Int.reduceLT,Int.reduceEq,reduceCtorEq,↓reduceIte,Bool.true_eq_false,Bool.false_eq_true,Bool.not_true,Bool.not_false,true_and,and_true,and_assoc,qaj,sub1,qdi,qdh,qdj,List.length_replicate,Nat.le_refl,false_implies,true_implies,ne_eq,not_true_eq_false,not_false_eq_true,decide_true,decide_false,decide_eq_true_eq,decide_eq_false_iff_not,Bool.not_eq_true',Bool.not_eq_false']
    exact out_bool rfl
  have c2 : ¬ (100 : Int) < (b.length : Int) := by omega
  have hn0 : Dig 256 ([] : List Int) := fun x hx => by simp at hx
  have q1 : preSl [.v (.ints .u8 k), .v (.ints .u8 n), .s .u8 b, .s .u8 a] := ⟨_, _, _, _, rfl, hk, hn, hb, by omega, ha, by omega⟩
  have q2 : preSl [.v (.ints .u8 k), .v (.ints .u8 n), .s .u8 [], .s .u8 (a ++ b)] := ⟨_, _, _, _, rfl, hk, hn, hn0, by decide, ha.append hb, by simp; omega⟩
  have f1 : F20 [.v (.ints .u8 k), .v (.ints .u8 n), .s .u8 b, .s .u8 a] = .one (.s .u8 (sealF k n b a)) := rfl
  have f2 : F20 [.v (.ints .u8 k), .v (.ints .u8 n), .s .u8 [], .s .u8 (a ++ b)] = .one (.s .u8 (sealF k n [] (a ++ b))) := rfl
  have lx := seal_len k n b a
  have ly := seal_len k n [] (a ++ b)
  rw [List.length_append] at ly
  have hxy : sub (sealF k n b a) 0 a.length = sub (sealF k n [] (a ++ b)) 0 a.length := by
    simp only [sealF, sub, List.drop_zero]
    rw [List.take_append_of_le_length (by rw [str_len]; exact Nat.le_refl _), List.take_append_of_le_length (by rw [str_len]; simp)]
    simp only [strF]
    rw [xorAt_append, List.take_append_of_le_length (by rw [xorAt_len]; exact Nat.le_refl _)]
  obtain ⟨X, hX⟩ : ∃ X, sealF k n b a = X := ⟨_, rfl⟩
  obtain ⟨Y, hY⟩ : ∃ Y, sealF k n [] (a ++ b) = Y := ⟨_, rfl⟩
  rw [hX] at f1 lx hxy
  rw [hY] at f2 ly hxy
  obtain ⟨Z, hZ⟩ : ∃ Z, sub Y 0 a.length = Z := ⟨_, rfl⟩
  rw [hZ] at hxy
  have sab : sub (a ++ b) 0 (a.length + b.length) = a ++ b := qdk (by simp)
  have lab : a.length ≤ a.length + b.length + 16 := by omega
  have lab2 : a.length ≤ a.length + 16 := by omega
  have wN : Go.IntKind.i64.wrap (((a.length + 16 : Nat) : Int) + (b.length : Int)) = ((a.length + b.length + 16 : Nat) : Int) := by rw [wrap_i64]; omega
  simp only [ir8,rs8,gl,FTrue09,F19,qA,hkl,hnl,sk,sn,sa,sb,c1,c2,q1,q2,f1,f2,lx,ly,hxy,hZ,sab,lab,lab2,wN,eq_self,s19,qdk,qdg,qaj,List.length_cons,List.length_nil,Nat.reduceAdd,Nat.le_refl,Nat.reduceLeDiff,Nat.reduceLT,true_and,and_true,↓qax,↓qay,↓qa0,↓qaz,↓qcy,↓qbj,↓qa1,↓qcr,↓qb3,↓qco,↓qcb,↓qck,↓qcl,↓qb4,↓qcj,↓qcp,↓qb5,↓qcm,↓qcn,↓qb6,↓qcc,↓qca,↓qb9,↓qb8,↓qb7,↓qa5,↓qbc,↓qa6,↓qbd,↓qa7,↓qbe,↓qa8,↓qbf,↓qa9,↓qbg,↓qba,↓qbh,↓qbb,↓qbi,↓qb2,↓qcq,↓qfq,↓qcu,↓qcv,↓qcw,↓qct,↓qcs,↓qbm,↓qbn,↓qb0,↓qbv,↓qbq,↓qbu,↓qbz,↓qbw,↓qby,↓qbx,↓qbr,↓qbp,↓qb1,↓qbs,↓qbt,↓qbo,↓qfd,↓qfc,↓qfh,↓qfj,↓qfi,↓qfb,↓qfa,↓qe7,↓qe8,↓qfg,↓qff,↓qfe,qdf,↓qe4,↓qe5,↓qe9,↓qdc,↓qda,↓qdb,↓qfl,↓qfm,↓qfn,↓qfk,qaa,↓qe6,↓qer,↓qes,↓qfp,↓qfo,↓qev,↓qdu,↓qd2,↓qej,↓qek,↓qe0,↓qe2,↓qdy,↓qdz,↓qd1,↓qd0,↓qd7,↓qe3,↓qd5,↓qew,↓qdx,↓qep,↓qex,↓qey,↓qez,↓qeb,↓qea,↓qec,↓qed,↓qef,↓qd9,↓qeg,↓qei,↓qeh,↓qdv,↓qdw,↓qd8,↓qaw,↓qd6,↓qeq,↓qem,↓qdt,↓qet,↓qen,↓qeo,↓qeu,↓qcd,↓qce,↓qcf,↓qcg,↓qch,↓qci,qdd,qde,qc1,qc2,↓qel,↓qee,qav,List.drop_zero,Nat.sub_zero,qc6,qcz,qc0,qdr,qat,qas,qaf,List.map_cons,List.map_nil,List.zip_cons_cons,List.zip_nil_right,List.zip_nil_left,qau,evs,evp,mkB,repB,blen,qae,qad,qac,qab,qc9,qc8,qdq,qds,qdo,qdp,qc5,qc7,qc3,qc4,↓qdm,↓qdl,↓qdn,↓qah,↓qag,↓qai,↓retQ,res,resAll,resOne,kill,apartOk,exp,injV,injB,pur,purs,purR,pursR,List.set_cons_zero,List.set_cons_succ,List.length_cons,List.length_nil,List.cons_append,List.nil_append,List.append_nil,List.append_assoc,List.length_append,List.reduceReplicate,Nat.reduceAdd,Nat.reduceMul,Nat.reduceSub,Nat.reduceEqDiff,Nat.reduceLT,Nat.zero_add,Nat.add_zero,Nat.mul_one,Int.reduceToNat,Int.toNat_natCast,Int.cast_ofNat_Int,Int.reduceLE,Int.reduceLT,Int.reduceEq,reduceCtorEq,↓reduceIte,Bool.true_eq_false,Bool.false_eq_true,Bool.not_true,Bool.not_false,true_and,and_true,and_assoc,qaj,sub1,qdi,qdh,qdj,List.length_replicate,Nat.le_refl,false_implies,true_implies,ne_eq,not_true_eq_false,not_false_eq_true,decide_true,decide_false,decide_eq_true_eq,decide_eq_false_iff_not,Bool.not_eq_true',Bool.not_eq_false']
  repeat (refine And.intro (by omega) ?_)
  exact out_bool rfl
end Am
