/-
Working texts: contracts of functions, and the numbers behind them.
-/
import Derived.Test.YtdhoblnbonldeaaDoorShG
import Derived.Test.YtdhoblnbonldeaaDoorIrE
import Derived.Test.YtdhoblnbonldeaaDoorGdC
set_option linter.unusedSimpArgs false
set_option linter.unusedVariables false
set_option linter.unusedSectionVars false
set_option linter.unusedSimpArgs false
set_option linter.unusedVariables false
set_option maxRecDepth 20000
namespace Am
open Go.Proofs
/-! ### A secret's keys, the first secrets -/
theorem exps1_dig {s info : List Int} : ∀ i, Dig 256 (exps s info i).1
  | 0 => fun x hx => absurd hx (by simp [exps])
  | i + 1 => by rw [exps]; exact Dig.append (exps1_dig i) (hmac_dig _ _)
theorem expand_dig (s info : List Int) (n : Nat) : Dig 256 (expand s info n) := (exps1_dig _).take n
def lkey : List Int := [113, 117, 105, 99, 32, 107, 101, 121]
def lnon : List Int := [113, 117, 105, 99, 32, 105, 118]
def lmsk : List Int := [113, 117, 105, 99, 32, 104, 112]
def ex (s l : List Int) (n : Nat) : List Int := expand s (labinfo l [] n) n
def gkeys (s : List Int) : List Int := ex s lkey 16 ++ (ex s lnon 12 ++ ex s lmsk 16)
theorem lit_dig {l : List Int} (h : l.all (fun x => decide (0 ≤ x ∧ x < 256)) = true) : Dig 256 l := fun x hx => of_decide_eq_true (List.all_eq_true.1 h x hx)
theorem ex_dig {s l : List Int} {n : Nat} : (ex s l n).length = n := expand_len _ _ _
def Sec (s : List Int) : Prop := s.length = 32 ∧ Dig 256 s
def preSec (ds : List D) : Prop := ∃ s : List Int, ds = [.v (.ints .u8 s)] ∧ Sec s
theorem q_lab {s l : List Int} (h : Sec s) (hl : Dig 256 l) (n : Int) : pre38 [.v (.ints .u8 s), .v (.str l), .s .u8 [], .v (.int .i64 n)] := ⟨s, l, [], n, rfl, h.2, h.1, hl, fun x hx => by simp at hx⟩
def F13 : List D → Out
  | [.v (.ints _ s)] => .one (.v (.ints .u8 (gkeys s)))
  | _ => bad
def s13 : Summ := sData [.v] preSec F13
theorem ok13 {g : List Blk} [Ge gl g] : SumOK Tryd.prog g 13 s13 ∧ SumAbs s13 := by
  refine fsumA (l := [(38, s38)]) mixed gl_plain rfl Tryd.func13 comp13 compR13 nt13 (by simp only [List.mem_cons, List.not_mem_nil, or_false, forall_eq]; exact ok38) fun ds ⟨s, hd, hs⟩ hA => ?_
  subst hd
  have hsl := hs.1
  have ss : sub s 0 32 = s := sub_zero hsl
  have q1 := q_lab (l := lkey) hs (lit_dig rfl) 16
  have q2 := q_lab (l := lnon) hs (lit_dig rfl) 12
  have q3 := q_lab (l := lmsk) hs (lit_dig rfl) 16
  have n1 : ¬ Lng lkey [] := by decide
  have n2 : ¬ Lng lnon [] := by decide
  have n3 : ¬ Lng lmsk [] := by decide
  have t16 : (16 : Int).toNat = 16 := rfl
  have t12 : (12 : Int).toNat = 12 := rfl
  obtain ⟨A, hA1⟩ : ∃ A, expand s (labinfo lkey [] 16) 16 = A := ⟨_, rfl⟩
  obtain ⟨B, hB⟩ : ∃ A, expand s (labinfo lnon [] 12) 12 = A := ⟨_, rfl⟩
  obtain ⟨C, hC⟩ : ∃ A, expand s (labinfo lmsk [] 16) 16 = A := ⟨_, rfl⟩
  have hG : gkeys s = A ++ (B ++ C) := by rw [← hA1, ← hB, ← hC]; rfl
  have lA : A.length = 16 := by rw [← hA1, expand_len]
  have lB : B.length = 12 := by rw [← hB, expand_len]
  have lC : C.length = 16 := by rw [← hC, expand_len]
  have sA : sub A 0 16 = A := sub_zero lA
  have sB : sub B 0 12 = B := sub_zero lB
  have sC : sub C 0 16 = C := sub_zero lC
  simp only [lkey, lnon, lmsk] at q1 q2 q3 n1 n2 n3 hA1 hB hC
  have tA : A.take 16 = A := List.take_of_length_le (by omega)
  have tB : B.take 12 = B := List.take_of_length_le (by omega)
  have tC : C.take 16 = C := List.take_of_length_le (by omega)
  have e1 : spl (List.replicate 44 0) 0 A = A ++ List.replicate 28 0 := by
    simp [spl, lA]
  have e2 : spl (A ++ List.replicate 28 0) 16 B = A ++ (B ++ List.replicate 16 0) := by
    simp [spl, lA, lB, List.take_append, List.drop_append]
  have e3 : spl (A ++ (B ++ List.replicate 16 0)) 28 C = A ++ (B ++ C) := by
    simp [spl, lA, lB, lC, List.take_append, List.drop_append]
    rw [List.drop_of_length_le (by omega : A.length ≤ 44), List.drop_of_length_le (by omega : B.length ≤ 28)]; simp
    exact List.take_of_length_le (by omega)
  have lG : (A ++ (B ++ C)).length = 44 := by simp [lA, lB, lC]
  have sG : sub (A ++ (B ++ C)) 0 44 = A ++ (B ++ C) := sub_zero lG
  have pG : spl (List.replicate 44 0) 0 (A ++ (B ++ C)) = A ++ (B ++ C) := qdb (by simp [lA, lB, lC])
  simp only [List.reduceReplicate] at e1 e2 e3 pG
  simp only [s38]
  simp only [ir13, rs13, gl, F13, F60, hsl, ss, q1, q2, q3, n1, n2, n3, t16, t12, hA1, hB, hC, hG, lA, lB, lC, sA, sB, sC, tA, tB, tC, e1, e2, e3, lG, sG, pG, or_self, Nat.min_self, s38, F38, sub_zero, qdb, qai, List.length_cons, List.length_nil, Nat.reduceAdd, Nat.le_refl, Nat.reduceLeDiff, Nat.reduceLT, true_and, and_true, ↓evA, evB, evs, evp, mkB, repB, blen, ↓retQ, res, resAll, resOne, kill, apartOk, exp, injV, injB, pur, purs, purR, pursR, List.reduceReplicate, Nat.reduceAdd, Nat.reduceMul, Nat.reduceSub, Nat.reduceEqDiff, Nat.reduceLT, Int.reduceToNat, Int.reduceLE, Int.reduceLT, Int.reduceEq, reduceCtorEq, ↓reduceIte]
  repeat (refine And.intro (by omega) ?_)
  simp only [out, outs, out1, pur, and_self]
def lci : List Int := [99, 108, 105, 101, 110, 116, 32, 105, 110]
def lsi : List Int := [115, 101, 114, 118, 101, 114, 32, 105, 110]
def salt : List Int := [0x38, 0x76, 0x2c, 0xf7, 0xf5, 0x59, 0x34, 0xb3, 0x4d, 0x17, 0x9a, 0xe6, 0xa4, 0xc8, 0x0c, 0xad, 0xcc, 0xbb, 0x7f, 0x0a]
def preId (ds : List D) : Prop := ∃ b : List Int, ds = [.s .u8 b] ∧ Dig 256 b ∧ b.length ≤ 549755813888
def F14 : List D → Out
  | [.s _ b] => .many [.v (.ints .u8 (ex (hmac salt b) lci 32)), .v (.ints .u8 (ex (hmac salt b) lsi 32))]
  | _ => bad
def s14 : Summ := sData [.s .u8] preId F14
theorem ok14 {g : List Blk} [Ge gl g] : SumOK Tryd.prog g 14 s14 ∧ SumAbs s14 := by
  refine fsumA (l := [(39, s39), (40, s40)]) mixed gl_plain rfl Tryd.func14 comp14 compR14 nt14 (by simp only [List.mem_cons, List.not_mem_nil, or_false, forall_eq_or_imp, forall_eq]; exact ⟨ok39, ok40⟩) fun ds ⟨b, hd, hb, hbl⟩ hA => ?_
  subst hd
  have sb := qdd b
  have q1 : pre39 [.s .u8 salt, .s .u8 b] := ⟨_, _, rfl, lit_dig rfl, by decide, hb, hbl⟩
  have hm : (hmac salt b).length = 32 ∧ Dig 256 (hmac salt b) := ⟨hmac_len _ _, hmac_dig _ _⟩
  obtain ⟨s, hs⟩ : ∃ s, hmac salt b = s := ⟨_, rfl⟩
  rw [hs] at hm
  have hsl := hm.1
  have ss : sub s 0 32 = s := sub_zero hsl
  have ps : spl [0, 0, 0, 0, 0, 0, 0, 0, 0, 0, 0, 0, 0, 0, 0, 0, 0, 0, 0, 0, 0, 0, 0, 0, 0, 0, 0, 0, 0, 0, 0, 0] 0 s = s := qdb (by simp [hsl])
  have q2 : pre40 [.v (.ints .u8 s), .v (.str lci), .s .u8 []] := ⟨_, _, _, rfl, hm.2, hsl, lit_dig rfl, fun x hx => by simp at hx⟩
  have q3 : pre40 [.v (.ints .u8 s), .v (.str lsi), .s .u8 []] := ⟨_, _, _, rfl, hm.2, hsl, lit_dig rfl, fun x hx => by simp at hx⟩
  have k1 : labkey s lci [] = ex s lci 32 := by rw [labkey, if_neg (by decide)]; rfl
  have k2 : labkey s lsi [] = ex s lsi 32 := by rw [labkey, if_neg (by decide)]; rfl
  obtain ⟨A, hA1⟩ : ∃ A, ex s lci 32 = A := ⟨_, rfl⟩
  obtain ⟨B, hB⟩ : ∃ A, ex s lsi 32 = A := ⟨_, rfl⟩
  have lA : A.length = 32 := by rw [← hA1, ex_dig]
  have lB : B.length = 32 := by rw [← hB, ex_dig]
  have pA : spl [0, 0, 0, 0, 0, 0, 0, 0, 0, 0, 0, 0, 0, 0, 0, 0, 0, 0, 0, 0, 0, 0, 0, 0, 0, 0, 0, 0, 0, 0, 0, 0] 0 A = A := qdb (by simp [lA])
  have pB : spl [0, 0, 0, 0, 0, 0, 0, 0, 0, 0, 0, 0, 0, 0, 0, 0, 0, 0, 0, 0, 0, 0, 0, 0, 0, 0, 0, 0, 0, 0, 0, 0] 0 B = B := qdb (by simp [lB])
  have sA : sub A 0 32 = A := sub_zero lA
  have sB : sub B 0 32 = B := sub_zero lB
  rw [hA1] at k1
  rw [hB] at k2
  have hF : F14 [.s .u8 b] = .many [.v (.ints .u8 A), .v (.ints .u8 B)] := by
    show Out.many [.v (.ints .u8 (ex (hmac salt b) lci 32)), .v (.ints .u8 (ex (hmac salt b) lsi 32))] = _
    rw [hs, hA1, hB]
  have ssalt : sub salt 0 20 = salt := rfl
  simp only [salt] at q1 hs ssalt
  simp only [lci, lsi] at q2 q3 k1 k2
  simp only [s39, s40]
  simp only [ir14, rs14, gl, hF, q1, hs, hsl, ss, ps, q2, q3, k1, k2, sb, pA, pB, sA, sB, lA, lB, ssalt, s39, s40, F39, F40, sub_zero, qdb, qai, List.length_cons, List.length_nil, Nat.reduceAdd, Nat.le_refl, Nat.reduceLeDiff, Nat.reduceLT, true_and, and_true, ↓evA, evB, evs, evp, mkB, repB, blen, ↓retQ, res, resAll, resOne, kill, apartOk, exp, injV, injB, pur, purs, purR, pursR, List.reduceReplicate, Nat.reduceAdd, Nat.reduceMul, Nat.reduceSub, Nat.reduceEqDiff, Nat.reduceLT, Int.reduceToNat, Int.reduceLE, Int.reduceLT, Int.reduceEq, reduceCtorEq, ↓reduceIte]
  repeat (refine And.intro (by omega) ?_)
  simp only [out, outs, out1, pur, and_self]
end Am
set_option linter.unusedSimpArgs false
set_option linter.unusedVariables false
set_option maxRecDepth 20000
namespace Am
open Go.Proofs
/-! ### The example of the chapter -/
def idx : List Int := [0x83, 0x94, 0xc8, 0xf0, 0x3e, 0x51, 0x57, 0x08]
theorem aw13 : (getI (gkeys (ex (hmac salt idx) lci 32)) 0 = 31 ∧ getI (gkeys (ex (hmac salt idx) lci 32)) 1 = 54 ∧ getI (gkeys (ex (hmac salt idx) lci 32)) 15 = 45) ∧ getI (gkeys (ex (hmac salt idx) lci 32)) 16 = 250 ∧ getI (gkeys (ex (hmac salt idx) lci 32)) 28 = 159 := by decide +kernel
theorem gkeys_len (s : List Int) : (gkeys s).length = 44 := by simp [gkeys, ex_dig]
theorem exps_dig' (s l : List Int) (n : Nat) : Dig 256 (ex s l n) := by
  exact expand_dig _ _ _
def FTrue : List D → Out
  | _ => .one (.v (.bool true))
def F12 : List D → Out
  | _ => .one (.v (.bool true))
def pre12 (ds : List D) : Prop := ds = []
def s12 : Summ := sData [] pre12 F12
set_option maxHeartbeats 2000000 in
theorem ok12 {g : List Blk} [Ge gl g] : SumOK Tryd.prog g 12 s12 ∧ SumAbs s12 := by
  refine fsumA (l := [(14, s14), (13, s13)]) mixed gl_plain rfl Tryd.func12 comp12 compR12 nt12 (by simp only [List.mem_cons, List.not_mem_nil, or_false, forall_eq_or_imp, forall_eq]; exact ⟨ok14, ok13⟩) fun ds hd hA => ?_
  rw [hd]
  have q1 : preId [.s .u8 idx] := ⟨_, rfl, lit_dig rfl, by decide⟩
  have sI : sub idx 0 8 = idx := rfl
  obtain ⟨⟨a1, a2, a3⟩, a4, a5⟩ := aw13
  obtain ⟨A, hA1⟩ : ∃ A, ex (hmac salt idx) lci 32 = A := ⟨_, rfl⟩
  obtain ⟨B, hB⟩ : ∃ A, ex (hmac salt idx) lsi 32 = A := ⟨_, rfl⟩
  have lA : A.length = 32 := by rw [← hA1, ex_dig]
  have dA : Dig 256 A := by rw [← hA1]; exact exps_dig' _ _ _
  have lB : B.length = 32 := by rw [← hB, ex_dig]
  rw [hA1] at a1 a2 a3 a4 a5
  obtain ⟨G, hG⟩ : ∃ G, gkeys A = G := ⟨_, rfl⟩
  have lG : G.length = 44 := by rw [← hG, gkeys_len]
  rw [hG] at a1 a2 a3 a4 a5
  have q2 : preSec [.v (.ints .u8 A)] := ⟨_, rfl, lA, dA⟩
  have pA : spl [0, 0, 0, 0, 0, 0, 0, 0, 0, 0, 0, 0, 0, 0, 0, 0, 0, 0, 0, 0, 0, 0, 0, 0, 0, 0, 0, 0, 0, 0, 0, 0] 0 A = A := qdb (by simp [lA])
  have pB : spl [0, 0, 0, 0, 0, 0, 0, 0, 0, 0, 0, 0, 0, 0, 0, 0, 0, 0, 0, 0, 0, 0, 0, 0, 0, 0, 0, 0, 0, 0, 0, 0] 0 B = B := qdb (by simp [lB])
  have sA : sub A 0 32 = A := sub_zero lA
  have pG : spl (List.replicate 44 0) 0 G = G := qdb (by simp [lG])
  have hF : F14 [.s .u8 idx] = .many [.v (.ints .u8 A), .v (.ints .u8 B)] := by
    show Out.many [.v (.ints .u8 (ex (hmac salt idx) lci 32)), .v (.ints .u8 (ex (hmac salt idx) lsi 32))] = _
    rw [hA1, hB]
  have hF2 : F13 [.v (.ints .u8 A)] = .one (.v (.ints .u8 G)) := by
    show Out.one (.v (.ints .u8 (gkeys A))) = _
    rw [hG]
  simp only [idx] at q1 sI hF
  simp only [List.reduceReplicate] at pG
  simp only [s14, s13]
  simp only [ir12, rs12, gl, F12, q1, sI, hF, q2, hF2, lA, lB, lG, pA, pB, sA, pG, a1, a2, a3, a4, a5, sub_zero, qdb, qai, List.length_cons, List.length_nil, Nat.reduceAdd, Nat.le_refl, Nat.reduceLeDiff, Nat.reduceLT, true_and, and_true, ↓evA, evB, evs, evp, mkB, repB, blen, ↓retQ, res, resAll, resOne, kill, apartOk, exp, injV, injB, pur, purs, purR, pursR, List.reduceReplicate, Nat.reduceAdd, Nat.reduceMul, Nat.reduceSub, Nat.reduceEqDiff, Nat.reduceLT, Int.reduceToNat, Int.reduceLE, Int.reduceLT, Int.reduceEq, reduceCtorEq, ↓reduceIte]
  repeat (refine And.intro (by omega) ?_)
  simp only [out, outs, out1, pur, and_self]
end Am
set_option linter.unusedSimpArgs false
set_option linter.unusedVariables false
set_option maxRecDepth 20000
namespace Am
open Go.Proofs
/-! ### A packet that was sealed is opened -/
theorem fb_facts : ∀ n : Nat, 1 ≤ n → n ≤ 4 → hnum (fb n) = n ∧ bAnd .u8 (fb n) 128 = 0 ∧ bAnd .u8 (fb n) 28 = 0 := fun n h1 h4 => by
  rcases (by omega : n = 1 ∨ n = 2 ∨ n = 3 ∨ n = 4) with rfl | rfl | rfl | rfl <;> decide +kernel
theorem short_lt {d : Nat} (h : 2 * d + 1 < 4294967296) : 2 * d + 1 < pw8 (shortN d) := by
  unfold shortN
  split
  · rename_i h1; simpa [pw8] using h1
  split
  · rename_i h1; simpa [pw8] using h1
  split
  · rename_i h1; simpa [pw8] using h1
  · simpa [pw8] using h
theorem pkt_back {k to : List Int} {pn ac : Nat} {b : List Int} (hk : K44 k) (htl : to.length = 8) (htd : Dig 256 to) (hac : ac ≤ pn) (hpn : pn < 4611686018427387904) (hd : 2 * (pn - ac) + 1 < 4294967296) (hb : Dig 256 b) {e : Nat} (he : (pktF k to pn ac b).length = e) :
    9 + 20 ≤ e ∧ e ≤ 29 + b.length + 3 ∧ rst (opD k (pktF k to pn ac b) 9 e) = 0 ∧ opP k (pktF k to pn ac b) 9 e ac = pn ∧
    opnB (sub k 0 16) (nonF k pn) (opH k (pktF k to pn ac b) 9 e) (opT k (pktF k to pn ac b) 9 e) = true ∧
    opnS (sub k 0 16) (nonF k pn) (opH k (pktF k to pn ac b) 9 e) (opT k (pktF k to pn ac b) 9 e) = padF (shortN (pn - ac)) b := by
  have hn := shortN_le (pn - ac)
  have hlt := short_lt hd
  have hP : pktF k to pn ac b = hidF k (headF to pn (shortN (pn - ac)) ++ sealF (sub k 0 16) (nonF k pn) (headF to pn (shortN (pn - ac))) (padF (shortN (pn - ac)) b)) 9 false := rfl
  obtain ⟨n, hne⟩ : ∃ n, shortN (pn - ac) = n := ⟨_, rfl⟩
  rw [hne] at hn hlt hP ⊢
  obtain ⟨hpd, hp4, hpl⟩ := padF_ok (n := n) hb hn.1
  have hhl := headF_len htl pn n
  have hhd := headF_dig htd pn n
  have hK : B16 (sub k 0 16) := ⟨by simp [sub, hk.1], sub_dig' hk.2⟩
  have hN : B12 (nonF k pn) := nonS_ok hk 8
  have hSl := seal_len (sub k 0 16) (nonF k pn) (headF to pn n) (padF n b)
  have hSd := seal_dig (sub k 0 16) (nonF k pn) (headF to pn n) (padF n b)
  have ho := opn_seal (sub k 0 16) (nonF k pn) (headF to pn n) (padF n b) hK hN hpd
  have hh0 : ∀ S : List Int, getI (headF to pn n ++ S) 0 = fb n := fun S => rfl
  have hhi : ∀ (S : List Int) (i : Nat), i < n → getI (headF to pn n ++ S) (9 + i) = ((pn / 2 ^ (8 * (n - 1 - i)) % 256 : Nat) : Int) := fun S i hi => by
    rw [getI_app (by omega), ← nmb_get pn n hn.2 hpn n (Nat.le_refl n) i hi]
    simp only [headF, getI, List.getD_eq_getElem?_getD, List.cons_append]
    rw [show 9 + i = (8 + i) + 1 by omega, List.getElem?_cons_succ, List.getElem?_append_right (by omega), htl, Nat.add_sub_cancel_left]
  obtain ⟨p, hpe⟩ : ∃ p, padF n b = p := ⟨_, rfl⟩
  obtain ⟨H, hH⟩ : ∃ H, headF to pn n = H := ⟨_, rfl⟩
  rw [hpe] at hpd hp4 hpl hSl hSd ho hP ⊢
  rw [hH] at hhl hhd hSl hSd ho hP
  simp only [hH] at hh0 hhi
  obtain ⟨S, hS⟩ : ∃ S, sealF (sub k 0 16) (nonF k pn) H p = S := ⟨_, rfl⟩
  rw [hS] at hSl hSd ho hP
  have h0 := hh0 S
  have hi := hhi S
  have hQd : Dig 256 (H ++ S) := hhd.append hSd
  have hQl : (H ++ S).length = 9 + n + (p.length + 16) := by rw [List.length_append, hhl, hSl]
  have hsH : sub (H ++ S) 0 (9 + n) = H := by simp [sub, hhl]
  have hsS : sub (H ++ S) (9 + n) (p.length + 16) = S := by
    simp only [sub, List.drop_append, hhl, Nat.sub_self, List.drop_zero]
    rw [List.drop_of_length_le (by omega), List.nil_append]
    exact List.take_of_length_le (by omega)
  obtain ⟨Q, hQ⟩ : ∃ Q, H ++ S = Q := ⟨_, rfl⟩
  rw [hQ] at hP h0 hi hQd hQl hsH hsS
  have hinv := hid_inv hk hQd (a := 9) (by decide) (by omega)
  have hRl := hidF_len k Q 9 false
  have hcn : hcnt k Q 9 false = hnum (getI Q 0) := rfl
  rw [hP] at he ⊢
  have hel : e = 9 + n + (p.length + 16) := by rw [← he, hRl, hQl]
  obtain ⟨R, hR⟩ : ∃ R, hidF k Q 9 false = R := ⟨_, rfl⟩
  rw [hR] at hRl hinv he ⊢
  have hsub : sub R 0 e = R := sub_zero he
  have hD : opD k R 9 e = Q := by rw [opD, hsub]; exact hinv.1
  obtain ⟨g1, g2, g3⟩ := fb_facts n hn.1 hn.2
  have hNn : opN k R 9 e = n := by rw [opN, hsub, hinv.2, hcn, h0, g1]
  have hHe : opH k R 9 e = H := by rw [opH, hD, hNn, hsH]
  have hTe : opT k R 9 e = S := by rw [opT, hD, hNn, show e - (9 + n) = p.length + 16 by omega, hsS]
  refine ⟨by omega, by omega, ?_, ?_, ?_, ?_⟩
  · rw [hD, rst, h0, g2, if_pos rfl, g3]
  · rw [opP, hD, hNn, sh_back hn.2 hi n (Nat.le_refl n), Nat.sub_self, Nat.mul_zero, Nat.pow_zero, Nat.div_one]
    exact full_back hac hpn hn.1 hn.2 hlt
  · rw [hHe, hTe]; exact ho.1
  · rw [hHe, hTe]; exact ho.2
end Am
set_option linter.unusedSimpArgs false
set_option linter.unusedVariables false
set_option maxRecDepth 20000
namespace Am
open Go.Proofs
/-! ### GuardRow -/
def rowP (st : List Int) (p0 : Nat) (j : Nat) : Nat := itr (fun p i => p + (getI st i).toNat + 1) p0 j
def preGR (ds : List D) : Prop := ∃ (s : List Int) (f : Int) (st b : List Int), ds = [.v (.ints .u8 s), .v (.int .u64 f), .s .u8 st, .s .u8 b] ∧ Sec s ∧ (0 ≤ f ∧ f < 18446744073709551616) ∧ Dig 256 st ∧ Dig 256 b
theorem rowP_le {st : List Int} (h : Dig 256 st) (p0 : Nat) : ∀ j, rowP st p0 j ≤ p0 + 256 * j
  | 0 => by simp [rowP, itr]
  | j + 1 => by
    have ih := rowP_le h p0 j
    have hb : Bt (getI st j) := h.all (by decide) j
    have e : rowP st p0 (j + 1) = rowP st p0 j + (getI st j).toNat + 1 := rfl
    have := hb.2
    rw [e]; omega
theorem gkeys_dig (s : List Int) : Dig 256 (gkeys s) := by
  unfold gkeys
  exact (exps_dig' _ _ _).append ((exps_dig' _ _ _).append (exps_dig' _ _ _))
set_option maxHeartbeats 8000000 in
theorem lawGuardRow : ∀ ds, preGR ds → Does Tryd.prog gl 7 (injV ds 4) (gl ++ injB true ds) (out (4 + (injB true ds).length) (FTrue ds)) := by
  refine fdoesA (l := [(12, s12), (13, s13), (20, s20), (23, s23)]) mixed gl_plain rfl Tryd.func7 comp7 compR7 nt7 (by simp only [List.mem_cons, List.not_mem_nil, or_false, forall_eq_or_imp, forall_eq]; exact ⟨ok12, ok13, ok20, ok23⟩) fun ds ⟨s, f, st, b, hd, hs, hf, hst, hb⟩ hA => ?_
  obtain ⟨f, rfl⟩ := Int.eq_ofNat_of_zero_le hf.1
  subst hd
  have hsl := hs.1
  have ss : sub s 0 32 = s := sub_zero hsl
  have sst := qdd st
  have sb := qdd b
  have pA : pre12 [] := rfl
  have fA : F12 [] = .one (.v (.bool true)) := rfl
  simp only [s12, s13, s20, s23]
  by_cases h1 : 60 < b.length
  · have c1 : (60 : Int) < (b.length : Int) := by omega
    simp only [ir7, rs7, gl, FTrue, pA, fA, hsl, ss, c1, sub_zero, qdb, qai, List.length_cons, List.length_nil, Nat.reduceAdd, Nat.le_refl, Nat.reduceLeDiff, Nat.reduceLT, true_and, and_true, ↓evA, evB, evs, evp, mkB, repB, blen, ↓retQ, res, resAll, resOne, kill, apartOk, exp, injV, injB, pur, purs, purR, pursR, List.reduceReplicate, Nat.reduceAdd, Nat.reduceMul, Nat.reduceSub, Nat.reduceEqDiff, Nat.reduceLT, Int.reduceToNat, Int.reduceLE, Int.reduceLT, Int.reduceEq, reduceCtorEq, ↓reduceIte]
    exact out_bool rfl
  have c1 : ¬ (60 : Int) < (b.length : Int) := by omega
  by_cases h2 : 6 < st.length
  · have c2 : (6 : Int) < (st.length : Int) := by omega
    simp only [ir7, rs7, gl, FTrue, pA, fA, hsl, ss, c1, c2, sub_zero, qdb, qai, List.length_cons, List.length_nil, Nat.reduceAdd, Nat.le_refl, Nat.reduceLeDiff, Nat.reduceLT, true_and, and_true, ↓evA, evB, evs, evp, mkB, repB, blen, ↓retQ, res, resAll, resOne, kill, apartOk, exp, injV, injB, pur, purs, purR, pursR, List.reduceReplicate, Nat.reduceAdd, Nat.reduceMul, Nat.reduceSub, Nat.reduceEqDiff, Nat.reduceLT, Int.reduceToNat, Int.reduceLE, Int.reduceLT, Int.reduceEq, reduceCtorEq, ↓reduceIte]
    exact out_bool rfl
  have c2 : ¬ (6 : Int) < (st.length : Int) := by omega
  have q1 : preSec [.v (.ints .u8 s)] := ⟨_, rfl, hs⟩
  have f1 : F13 [.v (.ints .u8 s)] = .one (.v (.ints .u8 (gkeys s))) := rfl
  have hK : K44 (gkeys s) := ⟨gkeys_len s, gkeys_dig s⟩
  obtain ⟨k, hk⟩ : ∃ k, gkeys s = k := ⟨_, rfl⟩
  rw [hk] at f1 hK
  have hkl := hK.1
  have sk : sub k 0 44 = k := sub_zero hkl
  have pk : spl (List.replicate 44 0) 0 k = k := qdb (by simp [hkl])
  have n61 : ¬ (2305843009213693952 : Int) = 0 := by decide
  obtain ⟨p0, hp0⟩ : ∃ p0, f % 2305843009213693952 = p0 := ⟨_, rfl⟩
  have hp0l : p0 < 2305843009213693952 := by rw [← hp0]; exact Nat.mod_lt _ (by decide)
  have w61 : (f : Int).tmod 2305843009213693952 = (p0 : Int) := by rw [← hp0]; exact tmod_nat (k := 2305843009213693952)
  have hz : List.replicate 8 (0 : Int) = [0, 0, 0, 0, 0, 0, 0, 0] := rfl
  have hag : agI [V.int .i64 2, .slice 8 0 1 8 8, .nils] = .agg [V.int .i64 2, .slice 8 0 1 8 8, .nils] := rfl
  have hs3 : sub [V.int .i64 2, .slice 8 0 1 8 8, .nils] 0 3 = [V.int .i64 2, .slice 8 0 1 8 8, .nils] := rfl
  have hpr : pursR [V.int .i64 2, .slice 8 0 1 8 8, .nils] = false := rfl
  have hsp : spl [V.int .i64 0, .nils, .nils] 0 [V.int .i64 2, .slice 8 0 1 8 8, .nils] = [V.int .i64 2, .slice 8 0 1 8 8, .nils] := rfl
  have hsz : sub [(0 : Int), 0, 0, 0, 0, 0, 0, 0] 0 8 = [0, 0, 0, 0, 0, 0, 0, 0] := rfl
  simp only [List.reduceReplicate] at pk
  simp only [ir7, rs7, gl, FTrue, pA, fA, hsl, ss, c1, c2, q1, f1, hkl, sk, pk, n61, w61, hsp, show (8 : Int).toNat = 8 from rfl, sub_zero, qdb, qai, List.length_cons, List.length_nil, Nat.reduceAdd, Nat.le_refl, Nat.reduceLeDiff, Nat.reduceLT, true_and, and_true, ↓evA, evB, evs, evp, mkB, repB, blen, ↓retQ, res, resAll, resOne, kill, apartOk, exp, injV, injB, pur, purs, purR, pursR, List.reduceReplicate, Nat.reduceAdd, Nat.reduceMul, Nat.reduceSub, Nat.reduceEqDiff, Nat.reduceLT, Int.reduceToNat, Int.reduceLE, Int.reduceLT, Int.reduceEq, reduceCtorEq, ↓reduceIte]
  repeat (refine And.intro (by omega) ?_)
  refine awp_loopA (n := 103) hA [3, 9, 10, 11, 12, 37, 38, 39] (by decide +kernel) (fun j : Nat => [.slice 5 0 1 b.length b.length, .ptr 7 0, .ptr 9 0, .int .u64 ((rowP st p0 j : Nat) : Int), .int .u64 ((rowP st p0 j : Nat) : Int), .slice 4 0 1 st.length st.length, .int .i64 st.length, .int .i64 (j : Int)])
    (fun j => [.ints true .u64 roots, .dead, .dead, .dead, .ints true .u8 st, .ints true .u8 b, .ints false .u8 s, .ints false .u8 k, .ints false .u8 [0, 0, 0, 0, 0, 0, 0, 0], .cells false [.int .i64 2, .slice 8 0 1 8 8, .nils]]) (fun j => j ≤ st.length) (fun j => st.length - j) 0 ?_ (by omega) ?_
  · refine Hd.same ?_
    simp only [rowP, itr, ↓evA, evB, evs, evp, mkB, repB, blen, ↓retQ, res, resAll, resOne, kill, apartOk, exp, injV, injB, pur, purs, purR, pursR, List.reduceReplicate, Nat.reduceAdd, Nat.reduceMul, Nat.reduceSub, Nat.reduceEqDiff, Nat.reduceLT, Int.reduceToNat, Int.reduceLE, Int.reduceLT, Int.reduceEq, reduceCtorEq, ↓reduceIte]
  intro j hj K hK'
  simp only [s12, s13, s20, s23]
  by_cases hlt : j < st.length
  · have d1 : (j : Int) < (st.length : Int) := by omega
    have wi : Go.IntKind.i64.wrap ((j : Int) + 1) = ((j + 1 : Nat) : Int) := by rw [wrap_i64]; omega
    have hrl := rowP_le hst p0 j
    have hx : rowP st p0 (j + 1) = rowP st p0 j + (getI st j).toNat + 1 := rfl
    have hbt := hst.all (by decide) j
    have v1 := wrap64 hbt.1 hbt.2
    obtain ⟨x, hxe, hx2⟩ := (show Bt (getI st j) from hbt).nat
    rw [hxe] at v1
    rw [hxe, Int.toNat_natCast] at hx
    obtain ⟨P, hP⟩ : ∃ P, rowP st p0 j = P := ⟨_, rfl⟩
    rw [hP] at hx hrl ⊢
    have wp : Go.IntKind.u64.wrap ((P : Int) + (x : Int)) = ((P + x : Nat) : Int) := by rw [wrap_u64]; omega
    have wq : Go.IntKind.u64.wrap (((P + x : Nat) : Int) + 1) = ((P + x + 1 : Nat) : Int) := by rw [wrap_u64]; omega
    have dz : Dig 256 [(0 : Int), 0, 0, 0, 0, 0, 0, 0] := fun y hy => by simp at hy; omega
    have q2 : preGS [.v (.ints .u8 k), .v (.agg [.int .i64 2, .rsl 1 8 .u8 [0, 0, 0, 0, 0, 0, 0, 0], .nils]), .v (.int .u64 ((P + x : Nat) : Int)), .v (.int .u64 (P : Int)), .s .u8 b] :=
      ⟨k, _, .nils, P + x, P, b, rfl, hK, rfl, dz, .inl rfl, by omega, by omega, hb, by omega⟩
    have f2 : F20 [.v (.ints .u8 k), .v (.agg [.int .i64 2, .rsl 1 8 .u8 [0, 0, 0, 0, 0, 0, 0, 0], .nils]), .v (.int .u64 ((P + x : Nat) : Int)), .v (.int .u64 (P : Int)), .s .u8 b] = .many [.s .u8 (pktF k [0, 0, 0, 0, 0, 0, 0, 0] ((P + x : Nat) : Int).toNat (P : Int).toNat b), .v (.int .i64 0)] := rfl
    rw [Int.toNat_natCast, Int.toNat_natCast] at f2
    obtain ⟨e, he⟩ : ∃ e, (pktF k [0, 0, 0, 0, 0, 0, 0, 0] (P + x) P b).length = e := ⟨_, rfl⟩
    have hback := pkt_back hK (to := [0, 0, 0, 0, 0, 0, 0, 0]) rfl dz (pn := P + x) (ac := P) (b := b) (by omega) (by omega) (by omega) hb he
    have hRd : Dig 256 (pktF k [0, 0, 0, 0, 0, 0, 0, 0] (P + x) P b) := hidF_dig ((headF_dig dz _ _).append (seal_dig _ _ _ _)) 9 false
    obtain ⟨t1, t2, t3, t4, t5, t6⟩ := hback
    obtain ⟨R, hR⟩ : ∃ R, pktF k [0, 0, 0, 0, 0, 0, 0, 0] (P + x) P b = R := ⟨_, rfl⟩
    rw [hR] at f2 he hRd t3 t4 t5 t6
    have q3 : preGO [.v (.ints .u8 k), .s .u8 R, .v (.int .i64 9), .v (.int .i64 (e : Int)), .v (.int .u64 (P : Int))] :=
      ⟨k, R, 9, e, P, rfl, hK, hRd, by decide, by omega, by omega, by omega, by omega, by rw [t4]; exact t5, t3⟩
    have f3 : F23 [.v (.ints .u8 k), .s .u8 R, .v (.int .i64 9), .v (.int .i64 (e : Int)), .v (.int .u64 (P : Int))] = .many [.v (.int .u64 (opP k R 9 e P : Nat)), .s .u8 (opnS (sub k 0 16) (nonF k (opP k R 9 e P)) (opH k R 9 e) (opT k R 9 e)), .v (.int .i64 0)] := rfl
    rw [t4, t6] at f3
    have hsn := shortN_le (P + x - P)
    obtain ⟨hpd, hp4, hpl⟩ := padF_ok (n := shortN (P + x - P)) hb hsn.1
    have hpb : sub (padF (shortN (P + x - P)) b) 0 b.length = b := by
      unfold padF; split
      · simp [sub]
      · simp [sub]
    have hpge : b.length ≤ (padF (shortN (P + x - P)) b).length := by
      unfold padF; split
      · simp
      · omega
    obtain ⟨C, hC⟩ : ∃ C, padF (shortN (P + x - P)) b = C := ⟨_, rfl⟩
    rw [hC] at f3 hpd hp4 hpl hpb hpge
    have d2 : ¬ (C.length : Int) < (b.length : Int) := by omega
    have d3 : ¬ (10 : Int) < (j : Int) := by omega
    have sR : sub R 0 e = R := sub_zero he
    simp only [d1, wi, hlt, hxe, v1, wp, wq, hkl, sk, hs3, hag, ↓hpr, hsz, sb, q2, f2, he, sR, q3, f3, hpb, d2, d3, eq_self, sub_zero, qdb, qai, List.length_cons, List.length_nil, Nat.reduceAdd, Nat.le_refl, Nat.reduceLeDiff, Nat.reduceLT, true_and, and_true, ↓evA, evB, evs, evp, mkB, repB, blen, ↓retQ, res, resAll, resOne, kill, apartOk, exp, injV, injB, pur, purs, purR, pursR, List.reduceReplicate, Nat.reduceAdd, Nat.reduceMul, Nat.reduceSub, Nat.reduceEqDiff, Nat.reduceLT, Int.reduceToNat, Int.reduceLE, Int.reduceLT, Int.reduceEq, reduceCtorEq, ↓reduceIte]
    repeat (refine And.intro (by omega) ?_)
    refine ⟨j + 1, hK' _ (by omega) (by omega), Hd.of [0, 1, 2, 3, 4, 5, 6, 7, 8, 9] (by decide) (by decide) (by simp) ?_⟩
    simp only [hx, gc, gcVs, gcV, posOf, gcH, gcB, Option.map_some, Option.map_none, List.replicate_zero, List.drop_zero, ↓evA, evB, evs, evp, mkB, repB, blen, ↓retQ, res, resAll, resOne, kill, apartOk, exp, injV, injB, pur, purs, purR, pursR, List.reduceReplicate, Nat.reduceAdd, Nat.reduceMul, Nat.reduceSub, Nat.reduceEqDiff, Nat.reduceLT, Int.reduceToNat, Int.reduceLE, Int.reduceLT, Int.reduceEq, reduceCtorEq, ↓reduceIte]
  · obtain rfl : j = st.length := by omega
    have d1 : ¬ (st.length : Int) < (st.length : Int) := by omega
    simp only [d1, sub_zero, qdb, qai, List.length_cons, List.length_nil, Nat.reduceAdd, Nat.le_refl, Nat.reduceLeDiff, Nat.reduceLT, true_and, and_true, ↓evA, evB, evs, evp, mkB, repB, blen, ↓retQ, res, resAll, resOne, kill, apartOk, exp, injV, injB, pur, purs, purR, pursR, List.reduceReplicate, Nat.reduceAdd, Nat.reduceMul, Nat.reduceSub, Nat.reduceEqDiff, Nat.reduceLT, Int.reduceToNat, Int.reduceLE, Int.reduceLT, Int.reduceEq, reduceCtorEq, ↓reduceIte]
    exact out_bool rfl
end Am
