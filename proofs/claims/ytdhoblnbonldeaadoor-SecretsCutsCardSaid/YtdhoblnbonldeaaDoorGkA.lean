/-
Working texts: contracts of functions, and the numbers behind them.
-/
import Derived.Test.YtdhoblnbonldeaaDoorRfM
import Derived.Test.YtdhoblnbonldeaaDoorIrE
set_option linter.unusedSimpArgs false
set_option linter.unusedVariables false
set_option linter.unusedSectionVars false
set_option linter.unusedSimpArgs false
set_option linter.unusedVariables false
set_option maxRecDepth 20000
namespace Am
open Go.Proofs
/-! ### A secret's keys, the first secrets -/
theorem exps1_dig {s info : List Int} : ∀ i, Dig 256 (exps s info i).1
  | 0 => fun x hx => absurd hx (by simp [exps])
  | i + 1 => by rw [exps]; exact Dig.append (exps1_dig i) (hmac_dig _ _)
theorem expand_dig (s info : List Int) (n : Nat) : Dig 256 (expand s info n) := (exps1_dig _).take n
def lkey : List Int := [113, 117, 105, 99, 32, 107, 101, 121]
def lnon : List Int := [113, 117, 105, 99, 32, 105, 118]
def lmsk : List Int := [113, 117, 105, 99, 32, 104, 112]
def ex (s l : List Int) (n : Nat) : List Int := expand s (labinfo l [] n) n
def gkeys (s : List Int) : List Int := ex s lkey 16 ++ (ex s lnon 12 ++ ex s lmsk 16)
theorem lit_dig {l : List Int} (h : l.all (fun x => decide (0 ≤ x ∧ x < 256)) = true) : Dig 256 l := fun x hx => of_decide_eq_true (List.all_eq_true.1 h x hx)
theorem ex_dig {s l : List Int} {n : Nat} : (ex s l n).length = n := expand_len _ _ _
def Sec (s : List Int) : Prop := s.length = 32 ∧ Dig 256 s
def preSec (ds : List D) : Prop := ∃ s : List Int, ds = [.v (.ints .u8 s)] ∧ Sec s
theorem q_lab {s l : List Int} (h : Sec s) (hl : Dig 256 l) (n : Int) : pre38 [.v (.ints .u8 s), .v (.str l), .s .u8 [], .v (.int .i64 n)] := ⟨s, l, [], n, rfl, h.2, h.1, hl, fun x hx => by simp at hx⟩
def F13 : List D → Out
  | [.v (.ints _ s)] => .one (.v (.ints .u8 (gkeys s)))
  | _ => bad
def s13 : Summ := sData [.v] preSec F13
theorem ok13 {g : List Blk} [Ge gl g] : SumOK Tryd.prog g 13 s13 ∧ SumAbs s13 := by
  refine fsumA (l := [(38, s38)]) mixed gl_plain rfl Tryd.func13 comp13 compR13 nt13 (by simp only [List.mem_cons, List.not_mem_nil, or_false, forall_eq]; exact ok38) fun ds ⟨s, hd, hs⟩ hA => ?_
  subst hd
  have hsl := hs.1
  have ss : sub s 0 32 = s := sub_zero hsl
  have q1 := q_lab (l := lkey) hs (lit_dig rfl) 16
  have q2 := q_lab (l := lnon) hs (lit_dig rfl) 12
  have q3 := q_lab (l := lmsk) hs (lit_dig rfl) 16
  have n1 : ¬ Lng lkey [] := by decide
  have n2 : ¬ Lng lnon [] := by decide
  have n3 : ¬ Lng lmsk [] := by decide
  have t16 : (16 : Int).toNat = 16 := rfl
  have t12 : (12 : Int).toNat = 12 := rfl
  obtain ⟨A, hA1⟩ : ∃ A, expand s (labinfo lkey [] 16) 16 = A := ⟨_, rfl⟩
  obtain ⟨B, hB⟩ : ∃ A, expand s (labinfo lnon [] 12) 12 = A := ⟨_, rfl⟩
  obtain ⟨C, hC⟩ : ∃ A, expand s (labinfo lmsk [] 16) 16 = A := ⟨_, rfl⟩
  have hG : gkeys s = A ++ (B ++ C) := by rw [← hA1, ← hB, ← hC]; rfl
  have lA : A.length = 16 := by rw [← hA1, expand_len]
  have lB : B.length = 12 := by rw [← hB, expand_len]
  have lC : C.length = 16 := by rw [← hC, expand_len]
  have sA : sub A 0 16 = A := sub_zero lA
  have sB : sub B 0 12 = B := sub_zero lB
  have sC : sub C 0 16 = C := sub_zero lC
  simp only [lkey, lnon, lmsk] at q1 q2 q3 n1 n2 n3 hA1 hB hC
  have tA : A.take 16 = A := List.take_of_length_le (by omega)
  have tB : B.take 12 = B := List.take_of_length_le (by omega)
  have tC : C.take 16 = C := List.take_of_length_le (by omega)
  have e1 : spl (List.replicate 44 0) 0 A = A ++ List.replicate 28 0 := by
    simp [spl, lA]
  have e2 : spl (A ++ List.replicate 28 0) 16 B = A ++ (B ++ List.replicate 16 0) := by
    simp [spl, lA, lB, List.take_append, List.drop_append]
  have e3 : spl (A ++ (B ++ List.replicate 16 0)) 28 C = A ++ (B ++ C) := by
    simp [spl, lA, lB, lC, List.take_append, List.drop_append]
    rw [List.drop_of_length_le (by omega : A.length ≤ 44), List.drop_of_length_le (by omega : B.length ≤ 28)]; simp
    exact List.take_of_length_le (by omega)
  have lG : (A ++ (B ++ C)).length = 44 := by simp [lA, lB, lC]
  have sG : sub (A ++ (B ++ C)) 0 44 = A ++ (B ++ C) := sub_zero lG
  have pG : spl (List.replicate 44 0) 0 (A ++ (B ++ C)) = A ++ (B ++ C) := qda (by simp [lA, lB, lC])
  simp only [List.reduceReplicate] at e1 e2 e3 pG
  simp only [s38]
  simp only [ir13, rs13, gl, F13, F60, hsl, ss, q1, q2, q3, n1, n2, n3, t16, t12, hA1, hB, hC, hG, lA, lB, lC, sA, sB, sC, tA, tB, tC, e1, e2, e3, lG, sG, pG, or_self, Nat.min_self, s38, F38, sub_zero, qda, qai, List.length_cons, List.length_nil, Nat.reduceAdd, Nat.le_refl, Nat.reduceLeDiff, Nat.reduceLT, true_and, and_true, ↓evA, evB, evs, evp, mkB, repB, blen, ↓retQ, res, resAll, resOne, kill, apartOk, exp, injV, injB, pur, purs, purR, pursR, List.reduceReplicate, Nat.reduceAdd, Nat.reduceMul, Nat.reduceSub, Nat.reduceEqDiff, Nat.reduceLT, Int.reduceToNat, Int.reduceLE, Int.reduceLT, Int.reduceEq, reduceCtorEq, ↓reduceIte]
  repeat (refine And.intro (by omega) ?_)
  simp only [out, outs, out1, pur, and_self]
def lci : List Int := [99, 108, 105, 101, 110, 116, 32, 105, 110]
def lsi : List Int := [115, 101, 114, 118, 101, 114, 32, 105, 110]
def salt : List Int := [0x38, 0x76, 0x2c, 0xf7, 0xf5, 0x59, 0x34, 0xb3, 0x4d, 0x17, 0x9a, 0xe6, 0xa4, 0xc8, 0x0c, 0xad, 0xcc, 0xbb, 0x7f, 0x0a]
def preId (ds : List D) : Prop := ∃ b : List Int, ds = [.s .u8 b] ∧ Dig 256 b ∧ b.length ≤ 549755813888
def F14 : List D → Out
  | [.s _ b] => .many [.v (.ints .u8 (ex (hmac salt b) lci 32)), .v (.ints .u8 (ex (hmac salt b) lsi 32))]
  | _ => bad
def s14 : Summ := sData [.s .u8] preId F14
theorem ok14 {g : List Blk} [Ge gl g] : SumOK Tryd.prog g 14 s14 ∧ SumAbs s14 := by
  refine fsumA (l := [(39, s39), (40, s40)]) mixed gl_plain rfl Tryd.func14 comp14 compR14 nt14 (by simp only [List.mem_cons, List.not_mem_nil, or_false, forall_eq_or_imp, forall_eq]; exact ⟨ok39, ok40⟩) fun ds ⟨b, hd, hb, hbl⟩ hA => ?_
  subst hd
  have sb := qdc b
  have q1 : pre39 [.s .u8 salt, .s .u8 b] := ⟨_, _, rfl, lit_dig rfl, by decide, hb, hbl⟩
  have hm : (hmac salt b).length = 32 ∧ Dig 256 (hmac salt b) := ⟨hmac_len _ _, hmac_dig _ _⟩
  obtain ⟨s, hs⟩ : ∃ s, hmac salt b = s := ⟨_, rfl⟩
  rw [hs] at hm
  have hsl := hm.1
  have ss : sub s 0 32 = s := sub_zero hsl
  have ps : spl [0, 0, 0, 0, 0, 0, 0, 0, 0, 0, 0, 0, 0, 0, 0, 0, 0, 0, 0, 0, 0, 0, 0, 0, 0, 0, 0, 0, 0, 0, 0, 0] 0 s = s := qda (by simp [hsl])
  have q2 : pre40 [.v (.ints .u8 s), .v (.str lci), .s .u8 []] := ⟨_, _, _, rfl, hm.2, hsl, lit_dig rfl, fun x hx => by simp at hx⟩
  have q3 : pre40 [.v (.ints .u8 s), .v (.str lsi), .s .u8 []] := ⟨_, _, _, rfl, hm.2, hsl, lit_dig rfl, fun x hx => by simp at hx⟩
  have k1 : labkey s lci [] = ex s lci 32 := by rw [labkey, if_neg (by decide)]; rfl
  have k2 : labkey s lsi [] = ex s lsi 32 := by rw [labkey, if_neg (by decide)]; rfl
  obtain ⟨A, hA1⟩ : ∃ A, ex s lci 32 = A := ⟨_, rfl⟩
  obtain ⟨B, hB⟩ : ∃ A, ex s lsi 32 = A := ⟨_, rfl⟩
  have lA : A.length = 32 := by rw [← hA1, ex_dig]
  have lB : B.length = 32 := by rw [← hB, ex_dig]
  have pA : spl [0, 0, 0, 0, 0, 0, 0, 0, 0, 0, 0, 0, 0, 0, 0, 0, 0, 0, 0, 0, 0, 0, 0, 0, 0, 0, 0, 0, 0, 0, 0, 0] 0 A = A := qda (by simp [lA])
  have pB : spl [0, 0, 0, 0, 0, 0, 0, 0, 0, 0, 0, 0, 0, 0, 0, 0, 0, 0, 0, 0, 0, 0, 0, 0, 0, 0, 0, 0, 0, 0, 0, 0] 0 B = B := qda (by simp [lB])
  have sA : sub A 0 32 = A := sub_zero lA
  have sB : sub B 0 32 = B := sub_zero lB
  rw [hA1] at k1
  rw [hB] at k2
  have hF : F14 [.s .u8 b] = .many [.v (.ints .u8 A), .v (.ints .u8 B)] := by
    show Out.many [.v (.ints .u8 (ex (hmac salt b) lci 32)), .v (.ints .u8 (ex (hmac salt b) lsi 32))] = _
    rw [hs, hA1, hB]
  have ssalt : sub salt 0 20 = salt := rfl
  simp only [salt] at q1 hs ssalt
  simp only [lci, lsi] at q2 q3 k1 k2
  simp only [s39, s40]
  simp only [ir14, rs14, gl, hF, q1, hs, hsl, ss, ps, q2, q3, k1, k2, sb, pA, pB, sA, sB, lA, lB, ssalt, s39, s40, F39, F40, sub_zero, qda, qai, List.length_cons, List.length_nil, Nat.reduceAdd, Nat.le_refl, Nat.reduceLeDiff, Nat.reduceLT, true_and, and_true, ↓evA, evB, evs, evp, mkB, repB, blen, ↓retQ, res, resAll, resOne, kill, apartOk, exp, injV, injB, pur, purs, purR, pursR, List.reduceReplicate, Nat.reduceAdd, Nat.reduceMul, Nat.reduceSub, Nat.reduceEqDiff, Nat.reduceLT, Int.reduceToNat, Int.reduceLE, Int.reduceLT, Int.reduceEq, reduceCtorEq, ↓reduceIte]
  repeat (refine And.intro (by omega) ?_)
  simp only [out, outs, out1, pur, and_self]
end Am
